/-
  Joined by program out of the texts MerC Law20C0 NeqC Law20C.
-/
import Derived.Test.YtcjjcnecopnpcaaGreatDoorMxT
import Derived.Test.YtcjjcnecopnpcaaGreatDoorMxM
import Derived.Test.YtcjjcnecopnpcaaGreatDoorMxJ
import Derived.Test.YtcjjcnecopnpcaaGreatDoorMxB
import Derived.Laws.StructEq
namespace Go.Proofs.YtcjjcnecopnpcaaGreatDoor
open Tryz
open Go Go.E
def Bi(f:Nat→Nat→List UInt8)(r:Nat):List (List UInt8):=(List.range 3).map (f r)
def B5(f:Nat→Nat→List UInt8):Ae:=⟨[65],3,(List.range 6).map (Bi f)⟩
structure Gd(f:Nat→Nat→List UInt8):Prop where
 id:∀r,r<6→f r 0=Lib.itoa ((100+r:Nat):Int)
 some:∀r,r<6→∀c,c<3→f r c≠[]
 may:∀r,r<6→∀c,c<3→BN (f r c)=true
 plain:∀r,r<6→∀c,c<3→Aj (f r c) 0≠61
theorem T4:∀a b c d e f:Bool,Cp (List.range 6) [if a then 0 else 10,if b then 1 else 11,if c then 2 else 12,if d then 3 else 13,if e then 4 else 14,if f then 5 else 15]=A5 6:=by decide +kernel
theorem ZW:∀x,x<6→∀y,y<6→Lib.itoa ((100+x:Nat):Int)=Lib.itoa ((100+y:Nat):Int)→x=y:=by decide +kernel
theorem Ic{f:Nat→Nat→List UInt8}{r:Nat}{t:List UInt8}(h:t∈Bi f r):∃c,c<3∧f r c=t:=by
 obtain⟨c,hc,rfl⟩:=AbE.1 h;exact⟨c,AbB.1 hc,rfl⟩
theorem QO{f:Nat→Nat→List UInt8}(h:Gd f){r:Nat}(hr:r<6):CG (Bi f r)=EW (Bi f r):=by
 rw[CG,List.filter_eq_self.2];intro t ht;obtain⟨c,hc,rfl⟩:=Ic ht
 simpa using h.some r hr c hc
theorem IK{f:Nat→Nat→List UInt8}(h:Gd f){r:Nat}(hr:r<6):(Bi f r).length<128 ^ 9∧∀s∈Bi f r,s.length<128 ^ 9:=⟨by simp[Bi],λs hs=>by
 obtain⟨c,hc,rfl⟩:=Ic hs;exact Nat.lt_of_le_of_lt (FA (h.may r hr c hc)) AdH⟩
theorem MD{f g:Nat→Nat→List UInt8}(hf:Gd f)(hg:Gd g){r q:Nat}(hr:r<6)(hq:q<6)(h:CG (Bi f r)=CG (Bi g q)):Bi f r=Bi g q:=by
 rw[QO hf hr,QO hg hq] at h;exact XY (IK hf hr).1 (IK hf hr).2 (IK hg hq).1 (IK hg hq).2 h
theorem Yf{f g:Nat→Nat→List UInt8}(hf:Gd f)(hg:Gd g){r q:Nat}(hr:r<6)(hq:q<6)(h:Bi f r=Bi g q):r=q:=by
 have h:[f r 0,f r 1,f r 2]=[g q 0,g q 1,g q 2]:=h;have h:=(AdI h).1;rw[hf.id r hr,hg.id q hq] at h;exact ZW r hr q hq h
theorem Yg{f g:Nat→Nat→List UInt8}(hf:Gd f)(hg:Gd g):AO (B5 f) (B5 g)=A5 6:=by
 let F:Nat→List UInt8:=λt=>if t<10 then CG (Bi f t) else CG (Bi g (t - 10))
 let tg:Nat→Nat:=λr=>if decide (Bi f r=Bi g r) then r else 10+r
 have e1:(B5 f).rows.map CG=(List.range 6).map F:=by
  show((List.range 6).map (Bi f)).map CG=_;rw[AbV];refine Ab0 λr hr=>?_;have hr:=AbB.1 hr;show _=if r<10 then _ else _;rw[if_pos AdE];rfl
 have e2:(B5 g).rows.map CG=((List.range 6).map tg).map F:=by
  show((List.range 6).map (Bi g)).map CG=_;rw[AbV,AbV];refine Ab0 λr hr=>?_;have hr:=AbB.1 hr;show CG (Bi g r)=F (tg r);by_cases e:Bi f r=Bi g r
  ·rw[show tg r=r from if_pos (by simpa using e)];show _=if r<10 then _ else _;rw[if_pos AdE,e]
  ·rw[show tg r=10+r from if_neg (by simpa using e)];show _=if 10+r<10 then _ else _;rw[if_neg AdE,show 10+r - 10=r by omega]
 rw[AO,e1,e2,Rr]
 ·exact T4 _ _ _ _ _ _
 ·intro x hx y hy he;have hx:=AbB.1 hx;obtain⟨r,hr,rfl⟩:=AbE.1 hy;have hr:=AbB.1 hr;have he:(if x<10 then CG (Bi f x) else CG (Bi g (x - 10)))=F (tg r):=he;rw[if_pos AdE] at he;by_cases e:Bi f r=Bi g r
  ·rw[show tg r=r from if_pos (by simpa using e)] at he ⊢;have he:_=if r<10 then CG (Bi f r) else _:=he;rw[if_pos AdE] at he;exact Yf hf hf hx hr (MD hf hf hx hr he)
  ·rw[show tg r=10+r from if_neg (by simpa using e)] at he ⊢;have he:_=if 10+r<10 then _ else CG (Bi g (10+r - 10)):=he;rw[if_neg AdE,show 10+r - 10=r by omega] at he;have h1:=MD hf hg hx hr he;obtain rfl:=Yf hf hg hx hr h1;exact absurd h1 e
theorem Hv{f:Nat→Nat→List UInt8}{r:Nat}(hr:r<6):(B5 f).rows.getD r []=Bi f r:=by
 show((List.range 6).map (Bi f)).getD r []=_;rw[AaF,Ab1,AbX hr];rfl
theorem PD{f:Nat→Nat→List UInt8}{r c:Nat}(hc:c<3):(Bi f r).getD c []=f r c:=by
 rw[Bi,AaF,Ab1,AbX hc];rfl
theorem WS{f g:Nat→Nat→List UInt8}(hf:Gd f)(hg:Gd g):CT (B5 f) (B5 g) (A5 6)=A5 3:=by
 have key:∀p∈Cl (B5 f) (B5 g) (A5 6),p.1=p.2∧p.1<6∧Bi f p.1=Bi g p.1:=by
  intro p hp;unfold Cl at hp;obtain⟨i,hi,h⟩:=List.mem_filterMap.1 hp;have hi:i<6:=by simpa[B5] using hi
  rw[show(A5 6)[i]?=some ((i:Nat):Int) by rw[A5,Ab1,AbX hi];rfl] at h;dsimp only at h
  split at h
  ·rename_i hc;have h:=Abm h;subst h;refine⟨rfl,hi,?_⟩;have h3:=hc.2.2;rw[show((i:Nat):Int).toNat=i from rfl,Hv hi,Hv hi] at h3;exact MD hf hg hi hi h3
  ·cases h
 have e:Bf (B5 f) ((Cl (B5 f) (B5 g) (A5 6)).map Prod.fst)=Bf (B5 g) ((Cl (B5 f) (B5 g) (A5 6)).map Prod.snd):=by
  unfold Bf;refine Ab0 λc _=>?_;unfold Gg;rw[AbV,AbV]
  congr 1
  refine Ab0 λp hp=>?_;obtain⟨h1,h2,h3⟩:=key p hp;show((B5 f).rows.getD p.1 []).getD c []=((B5 g).rows.getD p.2 []).getD c [];rw[←h1,Hv h2,Hv h2,h3]
 rw[CT,e,He];simp[Bf,B5]
def Yp:Bg:=⟨[65],⟨A5 6,6⟩,⟨A5 3,3⟩,false⟩
theorem OM{f g:Nat→Nat→List UInt8}(hf:Gd f)(hg:Gd g):Ag (B5 f) (B5 g)=Yp:=by
 unfold Ag;rw[Yg hf hg,WS hf hg];rfl
def Ni:A1:=⟨[65],6,3,0,false,false,Yp,Yp,Yp⟩
theorem QG:A3 ⟨A5 6,6⟩ ⟨A5 6,6⟩=⟨A5 6,A5 6,A5 6,6⟩∧A3 ⟨A5 3,3⟩ ⟨A5 3,3⟩=⟨A5 3,A5 3,A5 3,3⟩:=⟨by kernel_rfl,by kernel_rfl⟩
theorem XO{f g h:Nat→Nat→List UInt8}(hf:Gd f)(hg:Gd g)(hh:Gd h):AQ [65] (B5 f) (B5 g) (B5 h)=Ni:=by
 unfold AQ;rw[OM hf hg,OM hf hh];show(let r:=A3 ⟨A5 6,6⟩ ⟨A5 6,6⟩;let c:=A3 ⟨A5 3,3⟩ ⟨A5 3,3⟩;A1.mk [65] r.now c.now 0 false false ⟨[65],⟨r.o,r.now⟩,⟨c.o,c.now⟩,false⟩ ⟨[65],⟨r.x,r.now⟩,⟨c.x,c.now⟩,false⟩ ⟨[65],⟨r.y,r.now⟩,⟨c.y,c.now⟩,false⟩)=_;rw[QG.1,QG.2];rfl
theorem Kr{f:Nat→Nat→List UInt8}(hf:Gd f):Av [B5 f]=true:=by
 refine Bm.2 ⟨by simp,λs hs=>?_,Adb _ _⟩;obtain rfl:=Aad.1 hs;refine AZ.2 ⟨by show Do [65]=true;decide,by show(0:Int)≤3;decide,by show(3:Int)≤12;decide,by simp[B5],λr hr=>?_⟩;obtain⟨i,hi,rfl⟩:=AbE.1 hr;have hi:=AbB.1 hi;refine⟨by simp[Bi,B5],λt ht=>?_⟩;obtain⟨c,hc,rfl⟩:=Ic ht;exact hf.may i hi c hc
theorem TK{f:Nat→Nat→List UInt8}(hf:Gd f)(ss:List Bg):C5 [B5 f] ss=[B5 f]:=by
 show[KL _ _]=[_];unfold KL
 congr 2
 show((List.range 6).map (Bi f)).map _=(List.range 6).map (Bi f);rw[AbV];refine Ab0 λr hr=>?_;have hr:=AbB.1 hr;show Jh [65] _ (Bi f r)=Bi f r;unfold Jh
 conv=>rhs;rw[←List.map_id (Bi f r)]
 refine Ab0 λt ht=>?_;obtain⟨c,hc,rfl⟩:=Ic ht;exact DH (.inr (.inl (hf.plain r hr c hc)))
def HB(x y z:List UInt8):List UInt8:=if y=x then z else y
def Fb(r c:Nat)(x y z:List UInt8):List El:=if y≠x∧z≠x∧y≠z then[⟨[65],r,c,x,y,z⟩] else[]
theorem SF(x y z:List UInt8):CN (some x) (some y) (some z)=(HB x y z,if y≠x∧z≠x∧y≠z then some (x,y,z) else none):=by
 show(if y=z∨some x=some z then(y,none) else if some x=some y then(z,none) else(y,some ((some x).getD [],y,z)))=_;simp only[Aar,Ac2,HB];by_cases h1:y=z
 ·subst h1;rw[if_pos (.inl rfl),if_neg (show ¬(y≠x∧y≠x∧y≠y) from λh=>h.2.2 rfl)]
  split<;>rfl
 by_cases h2:x=z
 ·subst h2;rw[if_pos (.inr rfl),if_neg (show ¬(y≠x∧x≠x∧y≠x) from λh=>h.2.1 rfl)]
  split
  ·rename_i e;rw[e]
  ·rfl
 rw[if_neg (λh:y=z∨x=z=>h.elim h1 h2)];by_cases h3:x=y
 ·subst h3;rw[if_pos rfl,if_pos rfl,if_neg (show ¬(x≠x∧z≠x∧x≠z) from λh=>h.1 rfl)]
 ·rw[if_neg h3,if_neg (λh:y=x=>h3 h.symm),if_pos (show y≠x∧z≠x∧y≠z from⟨λh=>h3 h.symm,λh=>h2 h.symm,h1⟩)]
def PK(f g h:Nat→Nat→List UInt8):Ae:=⟨[65],3,(List.range 6).map λr=>(List.range 3).map λc=>HB (f r c) (g r c) (h r c)⟩
def CU(f g h:Nat→Nat→List UInt8):List El:=(List.range 6).flatMap λr=>(List.range 3).flatMap λc=>Fb r c (f r c) (g r c) (h r c)
theorem VQ{r:Nat}(hr:r<6):Dg (A5 6) ((r:Nat):Int)=some r:=by
 have:∀r,r<6→Dg (A5 6) ((r:Nat):Int)=some r:=by decide +kernel
 exact this r hr
theorem Ru{r:Nat}(hr:r<3):Dg (A5 3) ((r:Nat):Int)=some r:=by
 have:∀r,r<3→Dg (A5 3) ((r:Nat):Int)=some r:=by decide +kernel
 exact this r hr
theorem M8(f:Nat→Nat→List UInt8){r c:Nat}(hr:r<6)(hc:c<3):H0 [B5 f] Yp r c=some (f r c):=by
 have e:Bh [B5 f] [65]=some (B5 f):=rfl;unfold H0;rw[show Yp.sheet=[65] from rfl,e];dsimp only;rw[if_neg (by show ¬false=true;simp),show Yp.rows.to=A5 6 from rfl,show Yp.cols.to=A5 3 from rfl,VQ hr,Ru hc];show some (((B5 f).rows.getD r []).getD c [])=_;rw[Hv hr,PD hc]
theorem KB{α β:Type}{f g:α→List β}:∀{l:List α},(∀a∈l,f a=g a)→l.flatMap f=l.flatMap g
 | [],_=>rfl
 | a::l,h=>by rw[Ab6,Ab6,h a (Abo ..),KB λb hb=>h b (Abj _ hb)]
theorem Wx{f g h:Nat→Nat→List UInt8}(hf:Gd f)(hg:Gd g)(hh:Gd h):Cs [B5 f] [B5 g] [B5 h]=⟨[PK f g h],CU f g h,0⟩:=by
 by_cases e:B5 g=B5 h
 ·rw[←e,Th (Kr hf) (Kr hg)];have e1:∀r,r<6→∀c,c<3→g r c=h r c:=λr hr c hc=>by
   rw[←PD (f:=g) (r:=r) hc,←PD (f:=h) (r:=r) hc,←Hv hr,←Hv hr,e]
  congr 1
  ·congr 1
   unfold B5 PK
   congr 1
   refine Ab0 λr hr=>Ab0 λc hc=>?_;rw[HB,e1 r (AbB.1 hr) c (AbB.1 hc)]
   split<;>rfl
  ·symm;unfold CU;rw[Acs];intro r hr;rw[Acs];intro c hc;rw[Fb,e1 r (AbB.1 hr) c (AbB.1 hc),if_neg AdM]
 have ep:AN [B5 f] [B5 g] [B5 h]=[Ni]:=by
  have e1:∀l,Bh [B5 l] [65]=some (B5 l):=λl=>rfl;have e2:EV [B5 f] [B5 g] [B5 h]=[[65]]:=rfl;rw[AN,e2,AbK,Acm,e1,e1,e1,A4,if_neg e];show[AQ [65] _ _ _]=_;rw[XO hf hg hh]
 rw[Cs,if_pos ⟨Kr hf,Kr hg,Kr hh⟩,ep,if_neg AdH,Gi,ep];simp only[AbK,Acm];rw[TK hf,TK hg,TK hh,show Ed [Ni]=[Ni] from rfl];have key:∀r,r<6→∀c,c<3→GE Ni [B5 f] [B5 g] [B5 h] r c=(HB (f r c) (g r c) (h r c),if g r c≠f r c∧h r c≠f r c∧g r c≠h r c then some (f r c,g r c,h r c) else none):=λr hr c hc=>by
  show CN (H0 _ Yp r c) (H0 _ Yp r c) (H0 _ Yp r c)=_;rw[M8 f hr hc,M8 g hr hc,M8 h hr hc,SF]
 congr 1
 ·show[EY Ni _ _ _]=[_]
  congr 1
  unfold EY PK;show Ae.mk [65] 3 ((List.range 6).map _)=Ae.mk [65] 3 _
  congr 1
  refine Ab0 λr hr=>?_;unfold Wd;show(List.range 3).map _=_;refine Ab0 λc hc=>?_;rw[key r (AbB.1 hr) c (AbB.1 hc)]
 ·show Jb Ni _ _ _++[]=_;rw[Aby];unfold Jb CU;show[]++(List.range 6).flatMap _=_;rw[Ab5];refine KB λr hr=>?_;show(List.range 3).flatMap _=_;refine KB λc hc=>?_;rw[Uh,key r (AbB.1 hr) c (AbB.1 hc),Fb]
  split<;>rename_i h1
  ·dsimp only at h1
   split at h1
   ·rename_i h2;rw[if_pos h2];simp only[Aar,Abz] at h1;obtain⟨rfl,rfl,rfl⟩:=h1;rfl
   ·cases h1
  ·dsimp only at h1
   split at h1
   ·cases h1
   ·rename_i h2;rw[if_neg h2]
theorem Z9{k:IntKind}{w:World}{p:Option Addr}{c:Nat}{zs:List Int}(h:Y5 k w (.slice p zs.length c) zs){i:Nat}{z:Int}(hi:zs[i]?=some z):∃a,p=some a∧w.cell? (a.add (((i:Nat):Int).toNat*1))=some (.int k z):=by
 obtain⟨_,⟨e,e2⟩ | ⟨a,cap,e,hh⟩⟩:=h
 ·rw[e2] at hi;simp at hi
 ·obtain⟨rfl,_,_⟩:=Acw e;refine⟨a,rfl,?_⟩;rw[show((i:Nat):Int).toNat*1=i by omega];exact hh i z hi
def K3(zs:List Int)(r c:Nat):List UInt8:=if c=0 then Lib.itoa ((100+r:Nat):Int) else if c=1 then Lib.itoa (zs.getD r 0 % 3) else Lib.itoa (zs.getD r 0 / 3 % 3)
theorem JK{zs:List Int}(hz:∀z∈zs,0≤z∧z≤255):Gd (K3 zs):=by
 have hg:∀r,0≤zs.getD r 0∧zs.getD r 0≤255:=λr=>by
  rw[AaF]
  cases e:zs[r]? with
  | none=>simp
  | some z=>exact hz z (Abn e)
 have key:∀r c,∃z:Int,K3 zs r c=Lib.itoa z∧0≤z∧z≤100+r:=λr c=>by
  have:=hg r;unfold K3
  split
  ·exact⟨_,rfl,by omega,by omega⟩
  split
  ·exact⟨_,rfl,by omega,by omega⟩
  ·exact⟨_,rfl,by omega,by omega⟩
 refine⟨λr _=>rfl,λr hr c _=>?_,λr hr c _=>?_,λr hr c _=>?_⟩
 ·obtain⟨z,e,h1,h2⟩:=key r c;rw[e];exact(IB (n:=z) AdE AdE).2.1
 ·obtain⟨z,e,h1,h2⟩:=key r c;rw[e];exact MN z AdE AdE
 ·obtain⟨z,e,h1,h2⟩:=key r c;rw[e];have:=(IB (n:=z) AdE AdE).2.2;omega
theorem WR{zs:List Int}(hz:∀z∈zs,0≤z∧z≤255){r c:Nat}(hr:r<6)(hc:c<3):(K3 zs r c).length≤1000:=by
 have:=FA ((JK hz).may r hr c hc);omega
def PO(f:Nat→Nat→List UInt8)(n:Nat):List (List (List UInt8)):=(List.range n).map (Bi f)
theorem Ww(f:Nat→Nat→List UInt8)(n:Nat):PO f (n+1)=PO f n++[Bi f n]:=by rw[PO,AbJ,AbG];rfl
theorem Ik(f:Nat→Nat→List UInt8)(n:Nat):(PO f n).length=n:=by simp[PO]
set_option maxRecDepth 8000 in
set_option maxHeartbeats 4000000 in
theorem Js(zs:List Int)(p:Option Addr)(c:Nat)(w:World)(h:Y5 .u8 w (.slice p zs.length c) zs)(hz:∀z∈zs,0≤z∧z≤255):AF prog 23 [.slice p zs.length c] w (λr w'=>∃sv,r=.agg ⟨[sv]⟩∧AA w' sv [B5 (K3 zs)]∧Ai w w'):=by
 have b3:zs.length≤9223372036854775807:=by
  have:=h.1;omega
 obtain⟨f,hf⟩:∃f,f=K3 zs:=⟨_,rfl⟩;rw[←hf];have b4:∀r,r<6→∀c,c<3→(f r c).length≤1000:=λr hr c hc=>by rw[hf];exact WR hz hr hc
 refine Bj func23 ntmps23 ?_;refine Sa ?_;refine Bo λR w1 bd au hR=>?_;have be:=au.size;have bf:=hR.lt;refine Sa ?_;refine Bo λH w2 bg av hH=>?_;have bh:=av.size;have bi:=hH.lt;refine Sa ?_;refine AD λw3 aw hH=>?_;replace hH:Blk w3 H [Ao [65],.int .i64 3,.slice none 0 0] 46:=hH;have a5:Ai w1 w3:=av.step aw AdG;have bj:=aw.size;have b5:=hR.ext a5;have ag:=au.trans a5;refine Sw ?_;refine CW.loop (ι:=Nat×Value) (λx w'=>x.1≤6∧Chg [H] w3 w'∧Blk w' H [Ao [65],.int .i64 3,x.2] 46∧Qp (R::H::Ac x.2) w3.heap.size w' x.2 (PO f x.1)) (λx=>[(0,.slice p zs.length c),(2,.pointer (some ⟨R,0,none⟩)),(3,.pointer (some ⟨H,0,none⟩)),(4,.int .i64 (x.1:Int))]) (λx=>6 - x.1) (0,.slice none 0 0) ⟨by omega,Chg.refl _ _,hH,Aq.nil⟩ Bx ?_;rintro⟨i,rv⟩ w4 ⟨hi,aa,a4,ab⟩;dsimp only at hi a4 ab;show CW _ _ _ _ _ [(0,.slice p zs.length c),(2,.pointer (some ⟨R,0,none⟩)),(3,.pointer (some ⟨H,0,none⟩)),(4,.int .i64 (i:Int))] _;obtain⟨rp,rc,rfl⟩:=Aq.slice ab;rw[Ik] at *;have bk:=aa.size;have a6:Ai w w4:=ag.step aa AdG;have ac:=b5.chg aa AdG;have h4:=h.ext a6;refine Sw ?_;refine A8 (λc1=>?_) λc1=>?_
 ·have c1:i<6:=by simp at c1;omega
  obtain⟨css,g1,g2,g3,g4⟩:=ab;rw[Ik] at g1 g3;refine Sw ?_;refine Ay rfl rfl (GI (100+(i:Int)) AdE AdE _) ?_;rintro u w5 ⟨rfl,a2⟩;have b6:=a2.size;refine Sw ?_;refine Dt λD1 w6 bl ah a1=>?_;have bm:=ah.size;have b7:=a1.lt;have h6:=(h4.ext a2).ext ah;have ai:=a2.trans ah;have e0:f i 0=Lib.itoa (100+(i:Int)):=by rw[hf];rfl
  replace a1:Blk w6 D1 [Ao (f i 0),Ao [48],Ao [48]] 9:=by rw[e0];exact a1
  refine Sl ?_;apply LW.nil;apply QW.then_n;refine CW.seq_cut (ι:=Unit) (λ_ w'=>Chg [D1] w6 w'∧Blk w' D1 [Ao (f i 0),Ao (f i 1),Ao (f i 2)] 9) (λ_=>[(0,.slice p zs.length c),(2,.pointer (some ⟨R,0,none⟩)),(3,.pointer (some ⟨H,0,none⟩)),(4,.int .i64 (i:Int)),(5,.slice (some ⟨D1,0,none⟩) 3 3)]) ?_ ?_
  ·refine Sw ?_;refine A8 (λc2=>?_) λc2=>?_
   ·have c2:i<zs.length:=by simp at c2;omega
    obtain⟨z,ad⟩:∃z,zs[i]?=some z:=⟨_,Aap c2⟩;obtain⟨a,rfl,ae⟩:=Z9 h6 ad;obtain⟨z0,z1⟩:=hz z (Abn ad);have a7:zs.getD i 0=z:=by rw[AaF,ad];rfl
    have e1:f i 1=Lib.itoa (z % 3):=by rw[hf,K3,if_neg AdH,if_pos rfl,a7]
    have e2:f i 2=Lib.itoa (z / 3 % 3):=by rw[hf,K3,if_neg AdH,if_neg AdH,a7]
    have b8:a.block≠D1:=by
     have:=Z9 h4 ad;obtain⟨a',ea,aj⟩:=this;obtain rfl:=Abm ea;have:=AbO w4 _ aj;rw[BF] at this;omega
    rw[e1,e2];refine Sw ?_;refine Ay rfl rfl (GI (z % 3) AdE AdE _) ?_;rintro u w7 ⟨rfl,ak⟩;replace a1:=a1.ext ak;replace ae:=A0 ak ae;refine Sw ?_;refine CR λw8 ax a1=>?_;replace ae:=Gs ax (by rw[BF];simpa using b8) ae;refine Sw ?_;refine Ay rfl rfl (GI (z / 3 % 3) AdE AdE _) ?_;rintro u w9 ⟨rfl,ay⟩;replace a1:=a1.ext ay;refine Sw ?_;refine CR λal a0 a1=>?_;refine Sw ?_;exact QW.head () ⟨((Chg.trans (ak.chg.same ax) (ay.chg.same a0)).mono λb hb _=>by simpa using hb),a1⟩ Et
   ·have c2:¬i<zs.length:=by simp at c2;omega
    have a7:zs.getD i 0=0:=by rw[AaF,Abs AdE];rfl
    have e1:f i 1=[48]:=by rw[hf,K3,if_neg AdH,if_pos rfl,a7];decide +kernel
    have e2:f i 2=[48]:=by rw[hf,K3,if_neg AdH,if_neg AdH,a7];decide +kernel
    refine Sw ?_;exact QW.head () ⟨Chg.refl _ _,by rw[e1,e2];exact a1⟩ Et
  rintro⟨⟩ w7 ⟨az,b9⟩;have bn:=az.size;have a8:Ai w4 w7:=ai.step az AdG;replace a4:=a4.ext a8;clear a1 h6;refine Sw ?_;refine Dt λD2 w8 bo af am=>?_;replace am:Blk w8 D2 [.slice (some ⟨D1,0,none⟩) 3 3] 47:=am;have bp:=af.size;replace a4:=a4.ext af;have a3:=a8.trans af;refine Sw ?_;refine LW.append (lo:=w3.heap.size) (k:=i) rfl rfl rfl rfl rfl rfl (g3.ext a3) AdE am rfl rfl rfl (by show(i+1)*25≤140737488355328;omega) rfl ?_;intro v9 w9 a9 b0 an;have bq:=a9.size;have nH:H∉Ac (Value.slice rp i rc):=λhm=>by have:=(g3.lt hm).1;omega
  have b1:=a4.chg a9 nH;obtain⟨vp,vc,rfl⟩:=b0.slice;refine Sw ?_;refine CR λal a0 b1=>?_;have ao:=((b9.ext af).chg a9 λhm=>by have:=(g3.lt hm).2;omega).chg a0 AdG;have ba:Chg (H::Ac (Value.slice rp i rc)) w4 al:=(Chg.trans (a3.chg.same a9) a0).mono λb hb _=>by
   rcases Abf.1 hb with hb | hb
   ·exact Abj _ hb
   ·simp only[Aad] at hb;subst hb;exact Abo ..
  refine Sw ?_;refine QW.again (i+1,.slice vp (i+1) vc) ⟨by show i+1≤6;omega,?_,b1,?_⟩ Bx (by show 6 - (i+1)<6 - i;omega)
  ·refine(Chg.trans aa ba).mono λb hb br=>?_;simp only[Abf,AaT,Abu,or_false] at hb ⊢;rcases hb with hb | hb | hb
   ·exact hb
   ·exact hb
   ·have:=(g3.lt hb).1;omega
  ·have hu:∀j,j∈R::H::Ac (Value.slice vp (i+1) vc)→j∈R::H::Ac (Value.slice rp i rc)∨w8.heap.size≤j:=λj hj=>by
    simp only[AaT] at hj ⊢;rcases hj with hj | hj | hj
    ·exact .inl (.inl hj)
    ·exact .inl (.inr (.inl hj))
    ·rcases an j hj with h | h
     ·exact .inl (.inr (.inr h))
     ·exact .inr h
   show Qp _ _ _ _ (PO f (i+1));rw[Ww];have ap:E.Own al w3.heap.size 47 1 (.slice vp (i+1) vc) ((PO f i).length+1) (css.flatten++[.slice (some ⟨D1,0,none⟩) 3 3]):=by
    rw[Ik];refine b0.chg a0 λb hb hm=>?_;simp only[Aad] at hm;subst hm;rcases an _ hb with h | h
    ·exact nH h
    ·omega
   refine Aq.snoc (by rw[Ik];exact g1) g2 ap rfl (λk y ds hi hd=>((g4 k y ds hi hd).ext a3).step ?_ hu) λw' hw=>⟨_,rfl,?_⟩
   ·exact(Chg.trans a9 a0).mono λb hb _=>by
     simp only[Abf,AaT,Abu,or_false] at hb ⊢;rcases hb with hb | hb
     ·exact .inr (.inr hb)
     ·exact .inr (.inl hb)
   ·exact DQ (l:=Bi f i) (ao.chg hw (by
     simp only[AaT,not_or];refine⟨by omega,by omega,λhm=>?_⟩;rcases an _ hm with h | h
     ·have:=(g3.lt h).2;omega
     ·omega)) (by simp[Bi]) (λt ht=>by
      obtain⟨c,hc,rfl⟩:=Ic ht;have:=b4 i c1 c hc;omega)
 ·have c1:i=6:=by simp at c1;omega
  subst c1;refine Sw ?_;refine Dt λD w5 bs a2 hD=>?_;replace hD:Blk w5 D (Am (B5 f) (.slice rp 6 rc)) 46:=hD;have b6:=a2.size;have b7:=hD.lt;replace ac:=ac.ext a2;refine Sw ?_;refine AD λw6 aq ac=>?_;have b2:=Aq.ext' (R':=λ_ w cs s=>ET (R::H::Ac (Value.slice rp 6 rc)) w λw'=>Ye w' cs s) ab a2 λ_ _ _ _ h=>h.ext a2;have bb:=SafO.step (U':=[]) b2 aq (λj hj=>by simp only[Aad] at hj;subst hj;exact Abo ..) (λb hb hm=>by simp only[Aad] at hm;subst hm;have:=(Aq.lt b2 hb).1;omega) (λj hj=>by simp at hj);have ar:BA w6 (.slice rp 6 rc) (PO f 6):=Ab.map (Aq.list (ok:=HC) bb (by rw[Ik];omega) λ_ _ _=>trivial) (λ_ h=>h) λ_ _ _ _ h=>h.now;have bc:=hD.chg aq AdG;refine Sw ?_;refine QW.body_c rfl rfl ac rfl rfl rfl ⟨_,rfl,?_,(a6.trans a2).step aq AdG⟩;exact AA.one (s:=B5 f) bc (by simp[B5]) ar
theorem G8{t:TypeId}{off:Nat}{v:Value}{xs:Array Value}{r:TRow}(w:World)(h:Tab.row prog t=some r)(hd:Be r.desc=false)(hx:xs[off]?=some v):(part t xs off).run prog w=.ok v w:=by
 unfold part;simp only[AaU,Fx h,hd,AaG,Ab9,if_false,hx,Abp]
theorem Gw{d : Nat}{xs ys : Array Value}{f : Field}{fs : List Field}{v u : Value}(w : World)(hn : f.name ≠ "_")(h1 : (part f.type xs f.offset).run prog w = .ok v w)(h2 : (part f.type ys f.offset).run prog w = .ok u w)(he : (Op.equalIn d f.type v u).run prog w = .ok true w) : (Op.eqFields d xs ys (f :: fs)).run prog w = (Op.eqFields d xs ys fs).run prog w := by
 rw[Op.eqFields,if_pos hn];simp only[AaU,h1,h2,he,AaG,Bool.not_true,Ab9,if_false]
theorem Q6 : (prog.fieldsOf 49).toList = [Fl "Sheet" 9 0 0, Fl "Row" 3 1 16, Fl "Col" 3 2 24, Fl "Base" 9 3 32, Fl "Ours" 9 4 48, Fl "Their" 9 5 64] := by kernel_rfl
theorem K8(a:List UInt8)(d:Nat)(w:World):(Op.equalIn (d+1) 9 (Ao a) (Ao a)).run prog w=.ok true w:=by
 rw[run_equalIn_string w d 9 _ _ AdF];simp
theorem Mz(a:Int)(d:Nat)(w:World):(Op.equalIn (d+1) 3 (.int .i64 a) (.int .i64 a)).run prog w=.ok true w:=by
 rw[run_equalIn_int w d 3 .i64 .i64 _ _ AdF];simp
theorem Vh(c:El)(d:Nat)(w:World):(Op.equalIn (d+1+1) 49 (.agg ⟨Ci c⟩) (.agg ⟨Ci c⟩)).run prog w=.ok true w:=by
 refine(run_equalIn_agg w (d + 1) 49 _ _ AdF AdF).trans ?_; rw[Q6]; have p0 : (part 9 ⟨Ci c⟩ 0).run prog w = .ok (Ao c.sheet) w := G8 w rfl rfl (by simp[Ci]); have p1 : (part 3 ⟨Ci c⟩ 1).run prog w = .ok (.int .i64 c.row) w := G8 w rfl rfl (by simp[Ci]); have p2 : (part 3 ⟨Ci c⟩ 2).run prog w = .ok (.int .i64 c.col) w := G8 w rfl rfl (by simp[Ci]); have p3 : (part 9 ⟨Ci c⟩ 3).run prog w = .ok (Ao c.base) w := G8 w rfl rfl (by simp[Ci]); have p4 : (part 9 ⟨Ci c⟩ 4).run prog w = .ok (Ao c.ours) w := G8 w rfl rfl (by simp[Ci]); have p5 : (part 9 ⟨Ci c⟩ 5).run prog w = .ok (Ao c.their) w := G8 w rfl rfl (by simp[Ci]); have n0 : (Fl "Sheet" 9 0 0).name ≠ "_" := by show("Sheet" : String) ≠ "_"; simp
 have n1 : (Fl "Row" 3 1 16).name ≠ "_" := by show("Row" : String) ≠ "_"; simp
 have n2 : (Fl "Col" 3 2 24).name ≠ "_" := by show("Col" : String) ≠ "_"; simp
 have n3 : (Fl "Base" 9 3 32).name ≠ "_" := by show("Base" : String) ≠ "_"; simp
 have n4 : (Fl "Ours" 9 4 48).name ≠ "_" := by show("Ours" : String) ≠ "_"; simp
 have n5 : (Fl "Their" 9 5 64).name ≠ "_" := by show("Their" : String) ≠ "_"; simp
 refine(Gw (f := Fl "Sheet" 9 0 0) w n0 p0 p0 (K8 _ d w)).trans ?_; refine(Gw (f := Fl "Row" 3 1 16) w n1 p1 p1 (Mz _ d w)).trans ?_; refine(Gw (f := Fl "Col" 3 2 24) w n2 p2 p2 (Mz _ d w)).trans ?_; refine(Gw (f := Fl "Base" 9 3 32) w n3 p3 p3 (K8 _ d w)).trans ?_; refine(Gw (f := Fl "Ours" 9 4 48) w n4 p4 p4 (K8 _ d w)).trans ?_; refine(Gw (f := Fl "Their" 9 5 64) w n5 p5 p5 (K8 _ d w)).trans ?_; rfl
theorem YU{D:List Deferred}{n:Nat}{Ev:BW}{w:World}{x y:Operand}{dst:Option Tmp}{T ty:TypeId}{pos:String}{af:Array Edge}(c:El)(hx:ev Ev x=some (.agg ⟨Ci c⟩))(hy:ev Ev y=some (.agg ⟨Ci c⟩))(g:Option (Nat×Bool)) :
  ∀a,Holds a D n Ev→(execOp a.eval {dst,op:=.binOp .neq 49 x y ty,type:=T,pos,after:=af,guard:=g}).run prog w=.ok (.value (.bool false)) w:=λa ha=>by
 have hg:(eqGuard .neq 49 x y (.agg ⟨Ci c⟩) (.agg ⟨Ci c⟩)).run prog w=.ok () w:=run_eqGuard_agg w _ _ _ _ _ _ AdF;have hs:(Op.equalIn 10000 49 (.agg ⟨Ci c⟩) (.agg ⟨Ci c⟩)).run prog w=.ok true w:=Vh c 9998 w;simp only[execOp,ha.eval hx,ha.eval hy,AaU,hg,AaG,run_neq_struct,hs,Abp,Bool.not_true]
section
variable (f g h:Nat→Nat→List UInt8)
def DI(r k:Nat):List El:=(List.range r).flatMap (λr=>(List.range 3).flatMap λc=>Fb r c (f r c) (g r c) (h r c))++(List.range k).flatMap λc=>Fb r c (f r c) (g r c) (h r c)
theorem IJ(r k:Nat):DI f g h r (k+1)=DI f g h r k++Fb r k (f r k) (g r k) (h r k):=by
 unfold DI;rw[AbJ (n:=k),AbF,←List.append_assoc];simp
theorem Nk(r:Nat):DI f g h (r+1) 0=DI f g h r 3:=by
 unfold DI;rw[AbJ (n:=r),AbF];simp
theorem Nj:CU f g h=DI f g h 6 0:=by simp[DI,CU]
theorem Rw(r:Nat):∀n,∃rest,DI f g h (r+n) 0=DI f g h r 0++rest
 | 0=>⟨[],by simp⟩
 | n+1=>by
  obtain⟨t,e⟩:=Rw r n;refine⟨t++((List.range 3).flatMap λc=>Fb (r+n) c (f (r+n) c) (g (r+n) c) (h (r+n) c)),?_⟩;rw[show r+(n+1)=r+n+1 by omega,Nk,←List.append_assoc,←e];simp[DI]
theorem Zh{r k:Nat}(hr:r<6)(hk:k<3):∃rest,CU f g h=DI f g h r (k+1)++rest:=by
 obtain⟨t,e⟩:=Rw f g h (r+1) (6 - (r+1));rw[show r+1+(6 - (r+1))=6 by omega,←Nj,Nk] at e;have h3:DI f g h r 3=DI f g h r 2++Fb r 2 (f r 2) (g r 2) (h r 2):=IJ f g h r 2;have h2:DI f g h r 2=DI f g h r 1++Fb r 1 (f r 1) (g r 1) (h r 1):=IJ f g h r 1
 match k,hk with
 | 0,_=>exact⟨_,by rw[e,h3,h2,AaR,AaR]⟩
 | 1,_=>exact⟨_,by rw[e,h3,AaR]⟩
 | 2,_=>exact⟨_,e⟩
theorem XQ(r k:Nat):(DI f g h r k).length≤r*3+k:=by
 have h1:∀r c,(Fb r c (f r c) (g r c) (h r c)).length≤1:=λr c=>by unfold Fb;split<;>simp
 have h2:∀r n,((List.range n).flatMap λc=>Fb r c (f r c) (g r c) (h r c)).length≤n:=λr n=>by
  induction n with
  | zero=>simp
  | succ n ih=>
   rw[AbJ (n:=n),AbF,Aaq];have:=h1 r n;simp only[Ab6,AcQ,Aby];omega
 have h3:∀r,((List.range r).flatMap λr=>(List.range 3).flatMap λc=>Fb r c (f r c) (g r c) (h r c)).length≤r*3:=λr=>by
  induction r with
  | zero=>simp
  | succ n ih=>
   rw[AbJ (n:=n),AbF,Aaq];have:=h2 n 3;simp only[Ab6,AcQ,Aby];omega
 unfold DI;rw[Aaq];have:=h2 r k;have:=h3 r;omega
end
theorem PG(f g h:Nat→Nat→List UInt8){r:Nat}(hr:r<6):(PK f g h).rows[r]?=some ((List.range 3).map λc=>HB (f r c) (g r c) (h r c)):=by
 show((List.range 6).map λr=>(List.range 3).map λc=>HB (f r c) (g r c) (h r c))[r]?=_;rw[Ab1,AbX hr];rfl
theorem Iv(F:Nat→List UInt8){k:Nat}(hk:k<3):((List.range 3).map F)[k]?=some (F k):=by
 rw[Ab1,AbX hk];rfl
theorem PP(f:Nat→Nat→List UInt8){r:Nat}(hr:r<6):(B5 f).rows[r]?=some (Bi f r):=by
 show((List.range 6).map _)[r]?=_;rw[Ab1,AbX hr];rfl
theorem Fs{w:World}{q:Option Addr}{c:Nat}{s:Ae}{r k:Nat}{row:List (List UInt8)}{t:List UInt8}(hB:AA w (.slice q 1 c) [s])(hr:s.rows[r]?=some row)(hk:row[k]?=some t):∃a0 a1 a2 c1 c2,q=some a0∧w.cell? ((a0.add (((0:Nat):Int).toNat*3)).add 2)=some (.slice (some a1) s.rows.length c1)∧w.cell? (a1.add (((r:Nat):Int).toNat*1))=some (.slice (some a2) row.length c2)∧w.cell? (a2.add (((k:Nat):Int).toNat*1))=some (Ao t):=by
 obtain⟨a0,q0,k0,rfl,-,-,hR,hc⟩:=Aa.at (i:=0) hB rfl;obtain⟨a1,q1,k1,rfl,-,hT,a3⟩:=Bb.at (i:=r) hR hr;obtain⟨a2,rfl,-,-,a4⟩:=A2.at (i:=k) hT hk;exact⟨a0,a1,a2,k0,k1,rfl,hc 2 _ rfl,a3,a4⟩
set_option maxRecDepth 8000 in
set_option maxHeartbeats 8000000 in
theorem Ml(zo za zb:List Int)(po pa pb:Option Addr)(co ca cb:Nat)(w:World)(gl:CQ w)(ho:Y5 .u8 w (.slice po zo.length co) zo)(ha:Y5 .u8 w (.slice pa za.length ca) za)(hb:Y5 .u8 w (.slice pb zb.length cb) zb)(hzo:∀z∈zo,0≤z∧z≤255)(hza:∀z∈za,0≤z∧z≤255)(hzb:∀z∈zb,0≤z∧z≤255) :
  AF prog 7 [.slice po zo.length co,.slice pa za.length ca,.slice pb zb.length cb] w (λr w'=>r=.bool true∧Ai w w'):=by
 refine Bj func7 ntmps7 ?_;refine Sw ?_;refine Ay rfl rfl (Js zo po co w ho hzo) ?_;rintro u w1 ⟨ov,rfl,hO,ah⟩;obtain⟨qo,ko,rfl⟩:=Ab.slice hO;refine Sw ?_;refine Ay rfl rfl (Js za pa ca w1 (ha.ext ah) hza) ?_;rintro u w2 ⟨av,rfl,hA,ai⟩;obtain⟨qa,ka,rfl⟩:=Ab.slice hA;refine Sw ?_;refine Ay rfl rfl (Js zb pb cb w2 ((hb.ext ah).ext ai) hzb) ?_;rintro u w3 ⟨bv,rfl,hB,ao⟩;obtain⟨qb,kb,rfl⟩:=Ab.slice hB;replace hO:=Aa.ext (Aa.ext hO ai) ao;replace hA:=Aa.ext hA ao;have aq:=(ah.trans ai).trans ao;have tf:=JK hzo;have tg:=JK hza;have th:=JK hzb;obtain⟨f,hf⟩:∃f,f=K3 zo:=⟨_,rfl⟩;obtain⟨g,hg⟩:∃g,g=K3 za:=⟨_,rfl⟩;obtain⟨h,hh⟩:∃h,h=K3 zb:=⟨_,rfl⟩;rw[←hf] at tf hO;rw[←hg] at tg hA;rw[←hh] at th hB;clear ho ha hb hzo hza hzb ah ai ao hf hg hh;refine Sw ?_;refine Bo λO w4 bi b7 a8=>?_;have z4:=b7.size;have y4:=a8.lt;refine Sw ?_;refine Bo λA w5 bj az a9=>?_;have z5:=az.size;have y5:=a9.lt;refine Sw ?_;refine Bo λB w6 bk ar ac=>?_;have z6:=ar.size;have y6:=ac.lt;replace a8:=(a8.ext az).ext ar;replace a9:=a9.ext ar;refine Sw ?_;refine AD λw7 b0 a8=>?_;replace a9:=a9.chg b0 AdG;replace ac:=ac.chg b0 AdG;refine Sw ?_;refine AD λw8 b1 a9=>?_;replace a8:=a8.chg b1 AdG;replace ac:=ac.chg b1 AdG;refine Sw ?_;refine AD λw9 b2 ac=>?_;replace a8:=a8.chg b2 AdG;replace a9:=a9.chg b2 AdG;replace a8:Blk w9 O [.slice qo 1 ko] 24:=a8;replace a9:Blk w9 A [.slice qa 1 ka] 24:=a9;replace ac:Blk w9 B [.slice qb 1 kb] 24:=ac;have ad:Ai w3 w9:=((b7.trans az).trans ar).step (Chg.trans (Chg.trans b0 b1) b2) AdG;replace hO:=Aa.ext hO ad;replace hA:=Aa.ext hA ad;replace hB:=Aa.ext hB ad;have am:=aq.trans ad;have t:=K1 [B5 f] [B5 g] [B5 h] _ _ _ w9 (gl.ext am) hO hA hB;rw[Wx tf tg th] at t;clear b7 az ar b0 b1 b2 ad aq z4 z5 z6 y4 y5 y6 bi bj bk;refine Sw ?_;refine Ay rfl rfl t ?_;rintro u bq ⟨mv,cv,rfl,hM,hC,au⟩;obtain⟨mp,mc,rfl⟩:=Ab.slice hM;obtain⟨cp,cc,rfl⟩:=Ab.slice hC;refine Sw ?_;refine Bo λM br bs an aj=>?_;have z11:=an.size
 refine Sw ?_;refine AD λbl aw aj=>?_;replace aj:Blk bl M [.slice mp 1 mc] 24:=aj;have a5:=an.step aw AdG;have ae:=au.trans a5;have ak:=am.trans ae;clear t an aw;refine Sw ?_;refine Ay rfl rfl (Pf 0 _) ?_;rintro u b3 ⟨rfl,af⟩;have a6:=a5.trans af;have a4:=ae.trans af;have al:=ak.trans af;replace aj:=aj.ext af;replace a8:=a8.ext a4;replace a9:=a9.ext a4;replace ac:=ac.ext a4;replace hO:=Aa.ext hO a4;replace hA:=Aa.ext hA a4;replace hB:=Aa.ext hB a4;replace hM:=Aa.ext hM a6;replace hC:IX b3 (.slice cp (CU f g h).length cc) (CU f g h):=Ab.ext' hC a6 λ_ _ _ _ h=>h;clear au a5 ae ak af a6 a4 am;obtain⟨a0,a1,a2,c1,c2,rfl,bg,-,-⟩:=Fs hM (PG f g h (r:=0) AdE) (Iv _ (k:=0) AdE);replace bg:b3.cell? ((a0.add (((0:Nat):Int).toNat*3)).add 2)=some (.slice (some a1) 6 c1):=bg;refine Sw ?_;refine CW.loop (ι:=Nat) (λr w'=>r≤6∧Ai b3 w') (λr=>[(7,.pointer (some ⟨O,0,none⟩)),(8,.pointer (some ⟨A,0,none⟩)),(9,.pointer (some ⟨B,0,none⟩)),(10,.pointer (some ⟨M,0,none⟩)),(11,.slice cp (CU f g h).length cc),(13,.int .i64 ((DI f g h r 0).length:Int)),(14,.int .i64 r)]) (λr=>6 - r) 0 ⟨by omega,Chg.refl _ _⟩ Ff ?_;rintro r bh ⟨hr,aa⟩;show CW _ _ _ _ _ [(7,.pointer (some ⟨O,0,none⟩)),(8,.pointer (some ⟨A,0,none⟩)),(9,.pointer (some ⟨B,0,none⟩)),(10,.pointer (some ⟨M,0,none⟩)),(11,.slice cp (CU f g h).length cc),(13,.int .i64 ((DI f g h r 0).length:Int)),(14,.int .i64 (r:Int))] _;have pl:=λk=>XQ f g h r k;have bm:=aj.ext aa;refine Sw ?_;refine A8 (λh1=>?_) λh1=>?_
 ·have h1:r<6:=by simp at h1;omega
  obtain⟨a0',a1',a2',c1',c2',ea0,b8,b9,-⟩:=Fs (Aa.ext hM aa) (PG f g h h1) (Iv _ (k:=0) AdE);obtain rfl:=Abm ea0;replace b8:bh.cell? ((a0.add (((0:Nat):Int).toNat*3)).add 2)=some (.slice (some a1') 6 c1'):=b8;replace b9:bh.cell? (a1'.add (((r:Nat):Int).toNat*1))=some (.slice (some a2') 3 c2'):=b9;have e0:DI f g h r 1=DI f g h r 0:=by
   rw[IJ,Fb,tf.id r h1,tg.id r h1,if_neg AdM,Aby]
  refine Sw ?_;clear b8 b9 bm ea0;rw[←e0];refine CW.loop (ι:=Nat) (λk w'=>1≤k∧k≤3∧Ai b3 w') (λk=>[(7,.pointer (some ⟨O,0,none⟩)),(8,.pointer (some ⟨A,0,none⟩)),(9,.pointer (some ⟨B,0,none⟩)),(10,.pointer (some ⟨M,0,none⟩)),(11,.slice cp (CU f g h).length cc),(13,.int .i64 ((DI f g h r k).length:Int)),(14,.int .i64 r),(15,.int .i64 k)]) (λk=>3 - k) 1 ⟨by omega,by omega,aa⟩ LO ?_;clear e0 aa;rintro k ag ⟨bt,bu,a3⟩;show CW _ _ _ _ _ [(7,.pointer (some ⟨O,0,none⟩)),(8,.pointer (some ⟨A,0,none⟩)),(9,.pointer (some ⟨B,0,none⟩)),(10,.pointer (some ⟨M,0,none⟩)),(11,.slice cp (CU f g h).length cc),(13,.int .i64 ((DI f g h r k).length:Int)),(14,.int .i64 (r:Int)),(15,.int .i64 (k:Int))] _;have plk:=pl k;refine Sw ?_;refine A8 (λh2=>?_) λh2=>?_
  ·have h2:k<3:=by simp at h2;omega
   have bO:=a8.ext a3;have bA:=a9.ext a3;have bB:=ac.ext a3;have bM:=aj.ext a3;obtain⟨x0,x1,x2,d1,d2,ex,ah,ai,ao⟩:=Fs (Aa.ext hO a3) (PP f h1) (Iv _ h2);obtain⟨y0,y1,y2,d3,d4,ey,ba,bb,bn⟩:=Fs (Aa.ext hA a3) (PP g h1) (Iv _ h2);obtain⟨z0,z1,z2,d5,d6,ez,bc,bd,bo⟩:=Fs (Aa.ext hB a3) (PP h h1) (Iv _ h2);obtain⟨m0,m1,m2,d7,d8,em0,ax,ay,be⟩:=Fs (Aa.ext hM a3) (PG f g h h1) (Iv (λc=>HB (f r c) (g r c) (h r c)) h2);obtain rfl:=Abm em0;rw[ex] at bO;rw[ey] at bA;rw[ez] at bB;replace ah:ag.cell? ((x0.add (((0:Nat):Int).toNat*3)).add 2)=some (.slice (some x1) 6 d1):=ah;replace ai:ag.cell? (x1.add (((r:Nat):Int).toNat*1))=some (.slice (some x2) 3 d2):=ai;replace ba:ag.cell? ((y0.add (((0:Nat):Int).toNat*3)).add 2)=some (.slice (some y1) 6 d3):=ba;replace bb:ag.cell? (y1.add (((r:Nat):Int).toNat*1))=some (.slice (some y2) 3 d4):=bb;replace bc:ag.cell? ((z0.add (((0:Nat):Int).toNat*3)).add 2)=some (.slice (some z1) 6 d5):=bc;replace bd:ag.cell? (z1.add (((r:Nat):Int).toNat*1))=some (.slice (some z2) 3 d6):=bd;replace ax:ag.cell? ((a0.add (((0:Nat):Int).toNat*3)).add 2)=some (.slice (some m1) 6 d7):=ax;replace ay:ag.cell? (m1.add (((r:Nat):Int).toNat*1))=some (.slice (some m2) 3 d8):=ay;have ap:=IJ f g h r k;obtain⟨rest,b4⟩:=Zh f g h h1 h2;refine Sw ?_;refine CW.cut (ι:=Unit) (λ_ w'=>Ai ag w') (λ_=>[(16,Ao (f r k)),(17,Ao (g r k)),(18,Ao (h r k)),(7,.pointer (some ⟨O,0,none⟩)),(8,.pointer (some ⟨A,0,none⟩)),(9,.pointer (some ⟨B,0,none⟩)),(10,.pointer (some ⟨M,0,none⟩)),(11,.slice cp (CU f g h).length cc),(13,.int .i64 ((DI f g h r k).length:Int)),(14,.int .i64 r),(15,.int .i64 k)]) ?_ ?_
   ·clear ax ay be a8 a9 ac aj hO hA hB hM hC ap b4 pl;refine CW.drawG (Ai ag) 35 (λw' h=>h) AdF λwa bw=>?_;refine AJ ?_;refine GW.tail rfl AdF (λhS=>?_);refine Sw ?_;exact QW.head () hS Qq
   rintro⟨⟩ b5 ab;replace bM:=bM.ext ab;replace ax:=A0 ab ax;replace ay:=A0 ab ay;replace be:=A0 ab be;have a7:=a3.trans ab;clear ah ai ao ba bb bn bc bd bo bO bA bB ex ey ez em0 a3 ab;show CW _ _ _ _ _ [(16,Ao (f r k)),(17,Ao (g r k)),(18,Ao (h r k)),(7,.pointer (some ⟨O,0,none⟩)),(8,.pointer (some ⟨A,0,none⟩)),(9,.pointer (some ⟨B,0,none⟩)),(10,.pointer (some ⟨M,0,none⟩)),(11,.slice cp (CU f g h).length cc),(13,.int .i64 ((DI f g h r k).length:Int)),(14,.int .i64 (r:Int)),(15,.int .i64 (k:Int))] _;apply CW.seq;apply CW.region;refine Sl ?_;apply LW.nil;apply QW.then_n;refine CW.seq_cut (ι:=Unit) (λ_ w'=>w'=b5) (λ_=>[(19,Ao (HB (f r k) (g r k) (h r k))),(16,Ao (f r k)),(17,Ao (g r k)),(18,Ao (h r k)),(7,.pointer (some ⟨O,0,none⟩)),(8,.pointer (some ⟨A,0,none⟩)),(9,.pointer (some ⟨B,0,none⟩)),(10,.pointer (some ⟨M,0,none⟩)),(11,.slice cp (CU f g h).length cc),(13,.int .i64 ((DI f g h r k).length:Int)),(14,.int .i64 r),(15,.int .i64 k)]) ?_ ?_
   ·refine Sw ?_;refine A8 (λh3=>?_) λh3=>?_
    ·have h3:g r k=f r k:=by simpa using h3
     refine Sw ?_;exact QW.head () rfl (Al.cons (by rw[HB,if_pos h3];rfl) (Al.cons rfl (Al.cons rfl (Al.cons rfl (Al.cons rfl (Al.cons rfl (Al.cons rfl (Al.cons rfl (Al.cons rfl (Al.cons rfl (Al.cons rfl (Al.cons rfl (Al.nil)))))))))))))
    ·have h3:¬g r k=f r k:=by simpa using h3
     refine Sw ?_;exact QW.head () rfl (Al.cons (by rw[HB,if_neg h3];rfl) (Al.cons rfl (Al.cons rfl (Al.cons rfl (Al.cons rfl (Al.cons rfl (Al.cons rfl (Al.cons rfl (Al.cons rfl (Al.cons rfl (Al.cons rfl (Al.cons rfl (Al.nil)))))))))))))
   rintro⟨⟩ b5 rfl;show CW _ _ _ _ _ [(19,Ao (HB (f r k) (g r k) (h r k))),(16,Ao (f r k)),(17,Ao (g r k)),(18,Ao (h r k)),(7,.pointer (some ⟨O,0,none⟩)),(8,.pointer (some ⟨A,0,none⟩)),(9,.pointer (some ⟨B,0,none⟩)),(10,.pointer (some ⟨M,0,none⟩)),(11,.slice cp (CU f g h).length cc),(13,.int .i64 ((DI f g h r k).length:Int)),(14,.int .i64 (r:Int)),(15,.int .i64 (k:Int))] _;refine Sw ?_;refine A8 (λh4=>?_) λh4=>?_
   ·exfalso;simp at h4
   clear h4;apply CW.skip;apply QW.then_n;apply CW.seq;refine CW.cut (ι:=Unit) (λ_ w'=>w'=b5) (λ_=>[(133,.bool (decide (g r k≠f r k∧h r k≠f r k∧g r k≠h r k))),(16,Ao (f r k)),(17,Ao (g r k)),(18,Ao (h r k)),(7,.pointer (some ⟨O,0,none⟩)),(8,.pointer (some ⟨A,0,none⟩)),(9,.pointer (some ⟨B,0,none⟩)),(10,.pointer (some ⟨M,0,none⟩)),(11,.slice cp (CU f g h).length cc),(13,.int .i64 ((DI f g h r k).length:Int)),(14,.int .i64 r),(15,.int .i64 k)]) ?_ ?_
   ·by_cases c1:g r k=f r k
    ·refine Sw ?_;refine LW.know (t:=124) (c:=false) rfl (by simp[c1]) ?_;refine Sw ?_;exact QW.head () rfl (Al.cons (by rw[show decide (g r k≠f r k∧h r k≠f r k∧g r k≠h r k)=false from decide_eq_false (λq=>q.1 c1)];rfl) (Al.cons rfl (Al.cons rfl (Al.cons rfl (Al.cons rfl (Al.cons rfl (Al.cons rfl (Al.cons rfl (Al.cons rfl (Al.cons rfl (Al.cons rfl (Al.cons rfl (Al.nil)))))))))))))
    ·refine Sw ?_;refine LW.know (t:=124) (c:=true) rfl (by simp[c1]) ?_;refine Sw ?_;by_cases c2:h r k=f r k
     ·refine LW.know (t:=129) (c:=false) rfl (by simp[c2]) ?_;refine Sw ?_;exact QW.head () rfl (Al.cons (by rw[show decide (g r k≠f r k∧h r k≠f r k∧g r k≠h r k)=false from decide_eq_false (λq=>q.2.1 c2)];rfl) (Al.cons rfl (Al.cons rfl (Al.cons rfl (Al.cons rfl (Al.cons rfl (Al.cons rfl (Al.cons rfl (Al.cons rfl (Al.cons rfl (Al.cons rfl (Al.cons rfl (Al.nil)))))))))))))
     ·refine LW.know (t:=129) (c:=true) rfl (by simp[c2]) ?_;refine Sw ?_;exact QW.head () rfl (Al.cons (by rw[show decide (g r k≠f r k∧h r k≠f r k∧g r k≠h r k)=!decide (g r k=h r k) by simp[c1,c2]];rfl) (Al.cons rfl (Al.cons rfl (Al.cons rfl (Al.cons rfl (Al.cons rfl (Al.cons rfl (Al.cons rfl (Al.cons rfl (Al.cons rfl (Al.cons rfl (Al.cons rfl (Al.nil)))))))))))))
   rintro⟨⟩ b5 rfl;show CW _ _ _ _ _ [(133,.bool (decide (g r k≠f r k∧h r k≠f r k∧g r k≠h r k))),(16,Ao (f r k)),(17,Ao (g r k)),(18,Ao (h r k)),(7,.pointer (some ⟨O,0,none⟩)),(8,.pointer (some ⟨A,0,none⟩)),(9,.pointer (some ⟨B,0,none⟩)),(10,.pointer (some ⟨M,0,none⟩)),(11,.slice cp (CU f g h).length cc),(13,.int .i64 ((DI f g h r k).length:Int)),(14,.int .i64 (r:Int)),(15,.int .i64 (k:Int))] _;refine A8 (λh5=>?_) λh5=>?_
   ·have h5:g r k≠f r k∧h r k≠f r k∧g r k≠h r k:=by simpa using h5
    rw[Fb,if_pos h5] at ap;rw[ap] at b4;have bf:(CU f g h)[(DI f g h r k).length]?=some ⟨[65],r,k,f r k,g r k,h r k⟩:=by
     rw[b4,AaR,Abx (Abi _),Acz];rfl
    have bx:=(Abg.1 bf).1;obtain⟨a,cs,rfl,-,-,rfl,b6⟩:=Ab.at hC bf;have bp:=λj u hj=>A0 a7 (b6 j u hj);clear b6 hC b4 bf;refine Sw ?_;refine LW.know (t:=138) (c:=false) rfl AdG ?_;refine Sw ?_;refine LW.val rfl rfl rfl (YU ⟨[65],r,k,f r k,g r k,h r k⟩ rfl rfl none) ?_;refine Sw ?_;exact QW.again (k+1) ⟨by omega,by omega,a7⟩ (Al.cons rfl (Al.cons rfl (Al.cons rfl (Al.cons rfl (Al.cons rfl (Al.cons (by rw[ap,Aaq];rfl) (Al.cons rfl (Al.cons rfl Al.nil)))))))) AdE
   ·have h5:¬(g r k≠f r k∧h r k≠f r k∧g r k≠h r k):=by simpa using h5
    rw[Fb,if_neg h5,Aby] at ap;refine Sw ?_;exact QW.again (k+1) ⟨by omega,by omega,a7⟩ (Al.cons rfl (Al.cons rfl (Al.cons rfl (Al.cons rfl (Al.cons rfl (Al.cons (by rw[ap];rfl) (Al.cons rfl (Al.cons rfl Al.nil)))))))) AdE
  have h2:k=3:=by simp at h2;omega
  subst h2;refine Sw ?_;exact QW.again (r+1) ⟨by omega,a3⟩ (Al.cons rfl (Al.cons rfl (Al.cons rfl (Al.cons rfl (Al.cons rfl (Al.cons (by rw[Nk];rfl) (Al.cons rfl Al.nil))))))) AdE
 have h1:r=6:=by simp at h1;omega
 subst h1;rw[←Nj];have b6:=pl 0;rw[←Nj] at b6;refine Sw ?_;refine LW.know (t:=157) (c:=true) rfl AdM ?_;refine Sw ?_;refine Ay rfl rfl (Ls _ (gl.ext (al.trans aa))) ?_;rintro u ag ⟨rfl,a3⟩;refine Sw ?_;exact QW.body1 rfl rfl ⟨rfl,(al.trans aa).trans a3⟩
end Go.Proofs.YtcjjcnecopnpcaaGreatDoor
