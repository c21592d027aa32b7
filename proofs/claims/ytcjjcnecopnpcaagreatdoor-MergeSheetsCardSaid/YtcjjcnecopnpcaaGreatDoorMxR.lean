/-
  Joined by program out of the texts Mge6 Mge7 Mge8.
-/
import Derived.Test.YtcjjcnecopnpcaaGreatDoorMxP
import Derived.Test.YtcjjcnecopnpcaaGreatDoorMxM
import Derived.Test.YtcjjcnecopnpcaaGreatDoorMxI
namespace Go.Proofs.YtcjjcnecopnpcaaGreatDoor
open Tryz
open Go Go.E
theorem Yd{m:AH}(h:EE m){i j:Nat}(hi:i<m.to.length)(hj:j<m.to.length)(h0:0≤m.to.getD i 0)(e:m.to.getD i 0=m.to.getD j 0):i=j:=by
 rcases Ac7 i j with hl | hl | hl
 ·rcases h j hj with h1 | ⟨_,_,h1⟩
  ·omega
  ·have:=h1 i hl;omega
 ·exact hl
 ·rcases h i hi with h1 | ⟨_,_,h1⟩
  ·omega
  ·have:=h1 j hl;omega
theorem Rs{m:AH}(h:EE m){i r:Nat}(hi:i<m.to.length)(e:m.to.getD i 0=(r:Int)):Dg m.to (r:Int)=some i:=by
 unfold Dg;rw[Ab2];have ge:∀k (hk:k<m.to.length),m.to.getD k 0=m.to[k]:=λk hk=>by simp[hk]
 refine⟨hi,by rw[←ge i hi,e];simp,λj hj=>?_⟩;simp only[decide_eq_true_eq];intro e2;have:=Yd h (show j<m.to.length by omega) hi (by rw[ge j AdE,e2];omega) (by rw[ge j AdE,e2,e]);omega
theorem E3{to:List Int}{r i:Nat}(h:Dg to (r:Int)=some i):i<to.length∧to.getD i 0=(r:Int):=by
 unfold Dg at h;rw[Ab2] at h;obtain⟨h1,h2,_⟩:=h;refine⟨h1,?_⟩
 simpa[h1] using h2
noncomputable def Jj(b:An)(ss:List Bg)(nm:List UInt8)(r c:Nat):Option (List UInt8):=match Bh b nm,Ec ss nm with
 | some t,some s=>(match Dg s.rows.to (r:Int),Dg s.cols.to (c:Int) with
  | some i,some j=>some (D7 nm ss ((t.rows.getD i []).getD j []))
  | _,_=>none)
 | _,_=>none
noncomputable def HD(t:Ae)(s:Bg)(ss:List Bg)(nm:List UInt8)(n m:Nat)(r c:Nat):Option (List UInt8):=match Dg s.rows.to (r:Int),Dg s.cols.to (c:Int) with
 | some i,some j=>if i<n∨i=n∧j<m then some (D7 nm ss ((t.rows.getD i []).getD j [])) else none
 | _,_=>none
section
variable {t:Ae} {s:Bg} {ss:List Bg} {nm:List UInt8}
theorem VW(r c:Nat):HD t s ss nm 0 0 r c=none:=by
 unfold HD
 split
 ·rw[if_neg AdE]
 ·rfl
theorem XX{n m:Nat}(hm:s.cols.to.length≤m)(r c:Nat):HD t s ss nm (n+1) 0 r c=HD t s ss nm n m r c:=by
 unfold HD
 split
 ·rename_i i j h1 h2;have:=(E3 h2).1;have e:(i<n+1∨i=n+1∧j<0)↔(i<n∨i=n∧j<m):=AdE
  simp only[e]
 ·rfl
theorem XV{b:An}{n:Nat}(hn:s.rows.to.length≤n)(ht:Bh b nm=some t)(hs:Ec ss nm=some s)(r c:Nat):HD t s ss nm n 0 r c=Jj b ss nm r c:=by
 unfold HD Jj;rw[ht,hs];dsimp only
 split
 ·rename_i i j h1 h2;have:=(E3 h1).1;rw[if_pos (.inl AdE)]
 ·rfl
theorem XW{n m x y:Nat}(hr:EE s.rows)(hc:EE s.cols)(hn:n<s.rows.to.length)(hm:m<s.cols.to.length)(ex:s.rows.to.getD n 0=(x:Int))(ey:s.cols.to.getD m 0=(y:Int))(r c:Nat) :
  HD t s ss nm n (m+1) r c=if r=x∧c=y then some (D7 nm ss ((t.rows.getD n []).getD m [])) else HD t s ss nm n m r c:=by
 by_cases e:r=x∧c=y
 ·obtain⟨rfl,rfl⟩:=e;unfold HD;rw[Rs hr hn ex,Rs hc hm ey];simp
 ·rw[if_neg e];unfold HD
  split
  ·rename_i i j h1 h2;obtain⟨_,k1⟩:=E3 h1;obtain⟨_,k2⟩:=E3 h2;have e2:(i<n∨i=n∧j<m+1)↔(i<n∨i=n∧j<m):=by
    constructor
    ·rintro(h | ⟨rfl,h⟩)
     ·exact .inl h
     ·rcases AbI j m with h' | h'
      ·exact .inr ⟨rfl,h'⟩
      ·obtain rfl:j=m:=by omega
       exact absurd ⟨by omega,by omega⟩ e
    ·rintro(h | ⟨rfl,h⟩)
     ·exact .inl h
     ·exact .inr ⟨rfl,by omega⟩
   simp only[e2]
  ·rfl
theorem VV{n m:Nat}(h:s.rows.to.getD n 0<0∨s.cols.to.getD m 0<0)(r c:Nat):HD t s ss nm n (m+1) r c=HD t s ss nm n m r c:=by
 unfold HD
 split
 ·rename_i i j h1 h2;obtain⟨_,k1⟩:=E3 h1;obtain⟨_,k2⟩:=E3 h2;have e2:(i<n∨i=n∧j<m+1)↔(i<n∨i=n∧j<m):=by
   constructor
   ·rintro(h' | ⟨rfl,h'⟩)
    ·exact .inl h'
    ·rcases AbI j m with h3 | h3
     ·exact .inr ⟨rfl,h3⟩
     ·obtain rfl:j=m:=by omega
      omega
   ·rintro(h' | ⟨rfl,h'⟩)
    ·exact .inl h'
    ·exact .inr ⟨rfl,by omega⟩
  simp only[e2]
 ·rfl
end
theorem AaV(x y:Int):prog.built 105 [(0,.int .i64 x),(1,.int .i64 y)]=some ⟨[.int .i64 x,.int .i64 y]⟩:=by kernel_rfl
theorem Y.key{D:List Deferred}{n d:Nat}{E:BW}{w:World}{u v:Operand}{T:TypeId}{pos:String}{af:Array Edge}{x y:Int}(hx:ev E u=some (.int .i64 x))(hy:ev E v=some (.int .i64 y)):Y prog D n E w ⟨some d,.build 105 ⟨[(0,u),(1,v)]⟩,T,pos,af,none⟩ (.agg ⟨[.int .i64 x,.int .i64 y]⟩):=λa ha=>by
 have e4:(execOp a.eval ⟨some d,.build 105 ⟨[(0,u),(1,v)]⟩,T,pos,af,none⟩)=(do Pure.pure (Next.value (←Instr.build 105 ⟨[(0,a.eval u),(1,a.eval v)]⟩))):=by
  simp[execOp]
 rw[e4,ha.eval hx,ha.eval hy,AaU,run_build _ _ _ _ (AaV x y)];rfl
theorem Wv(s:Bg)(rp cp:Option Addr)(rl rc cl cc A:Nat)(x:List UInt8)(cs:List Value)(w:World)(hA:Blk w A (Ao x::cs) 70):AF prog 79 [.agg ⟨J7 s (.slice rp rl rc) (.slice cp cl cc)⟩,.pointer (some ⟨A,0,none⟩)] w (λv w'=>v=.bool (decide (s.sheet=x))∧Ai w w'):=by
 refine Bj func79 ntmps79 ?_;refine Sa ?_;refine CM λX w1 a1 a0 hX=>?_;replace hX:Blk w1 X (J7 s (.slice rp rl rc) (.slice cp cl cc)) 79:=hX;replace hA:=hA.ext a0;refine Sa ?_;exact QW.body1 rfl rfl ⟨by simp,a0⟩
theorem RZ(ss:List Bg)(sv:Value)(A:Nat)(x:List UInt8)(cs:List Value)(w:World)(h:Cw w sv ss)(hA:Blk w A (Ao x::cs) 70):AF prog 78 [sv,.func (.func 79) ⟨[]⟩ ⟨[.pointer (some ⟨A,0,none⟩)]⟩] w (λv w'=>v=.int .i64 (match KD ss x with | some i=>(i:Int) | none=>-1)∧Ai w w'):=by
 obtain⟨p,c,rfl⟩:=h.slice;have hl:=h.1;refine Bj func78 ntmps78 ?_;refine Sa ?_;refine CW.loop (ι:=Nat) (λk w'=>k≤ss.length∧Ai w w'∧∀i u,i<k→ss[i]?=some u→u.sheet≠x) (λk=>[(0,.slice p ss.length c),(1,.func (.func 79) ⟨[]⟩ ⟨[.pointer (some ⟨A,0,none⟩)]⟩),(7,.int .i64 ss.length),(8,.int .i64 k)]) (λk=>ss.length - k) 0 ⟨by omega,Chg.refl _ _,λi u h=>by omega⟩ Bx ?_;rintro k w1 ⟨hk,hx,a2⟩;replace h:=h.ext hx;replace hA:=hA.ext hx;refine Sa ?_;refine A8 (λh2=>?_) λh2=>?_
 ·have h2:k<ss.length:=by simp at h2;omega
  obtain⟨s,hs⟩:∃s,ss[k]?=some s:=⟨_,Aap h2⟩;obtain⟨a,rp,rc,cp,cc,rfl,hr,hc,a1⟩:=h.at hs;have a0:∀j u,(J7 s (.slice rp s.rows.to.length rc) (.slice cp s.cols.to.length cc))[j]?=some u→w1.cell? ((a.add (((k:Nat):Int).toNat*6)).add j)=some u:=λj u hj=>by rw[show((k:Nat):Int).toNat=k by omega];exact a1 j u hj
  refine Sa ?_;refine Lo ?_;refine LW.load_cells rfl a0 rfl rfl rfl rfl ?_;refine Sa ?_;refine LW.call (fs:=[]) (cs:=[.pointer (some ⟨A,0,none⟩)]) rfl rfl rfl (Wv s _ _ _ _ _ _ A x cs w1 hA) ?_;rintro v w2 ⟨rfl,a3⟩;refine Sa ?_;refine A8 (λh3=>?_) λh3=>?_
  ·have h3:s.sheet=x:=by simpa using h3
   refine Sa ?_;exact QW.body1 rfl rfl ⟨by rw[Oz hs h3 a2],hx.trans a3⟩
  ·have h3:s.sheet≠x:=by simpa using h3
   refine Sa ?_;refine QW.again (k+1) ⟨by omega,hx.trans a3,λi u hi hu=>?_⟩ Bx AdE;rcases AbI i k with h4 | h4
   ·exact a2 i u h4 hu
   ·obtain rfl:i=k:=by omega
    rw[hs] at hu;obtain rfl:=Abm hu;exact h3
 ·have h2:k=ss.length:=by simp at h2;omega
  subst h2;refine Sa ?_;refine QW.body1 rfl rfl ⟨?_,hx⟩;rw[Oy (λi s hi hs=>a2 i s hi hs)]
theorem WJ{ss:List Bg}{sv:Value}{w:World}(h:Cw w sv ss){k:Nat}{s:Bg}(hs:ss[k]?=some s):∃a rp rc cp cc c,sv=.slice (some a) ss.length c∧AY w (.slice rp s.rows.to.length rc) s.rows.to∧AY w (.slice cp s.cols.to.length cc) s.cols.to∧
  (∀j u,([.slice rp s.rows.to.length rc,.int .i64 s.rows.new]:List Value)[j]?=some u→w.cell? (((a.add (((k:Nat):Int).toNat*6)).add 1).add j)=some u)∧
  (∀j u,([.slice cp s.cols.to.length cc,.int .i64 s.cols.new]:List Value)[j]?=some u→w.cell? (((a.add (((k:Nat):Int).toNat*6)).add 3).add j)=some u):=by
 obtain⟨p,c,rfl⟩:=h.slice;obtain⟨a,rp,rc,cp,cc,rfl,hr,hc,a1⟩:=h.at hs;have a0:∀j u,(J7 s (.slice rp s.rows.to.length rc) (.slice cp s.cols.to.length cc))[j]?=some u→w.cell? ((a.add (((k:Nat):Int).toNat*6)).add j)=some u:=λj u hj=>by rw[show((k:Nat):Int).toNat=k by omega];exact a1 j u hj
 refine⟨a,rp,rc,cp,cc,c,rfl,hr,hc,λj u hj=>?_,λj u hj=>?_⟩
 ·match j,hj with
  | 0,hj=>exact a0 1 u hj
  | 1,hj=>exact a0 2 u hj
 ·match j,hj with
  | 0,hj=>exact a0 3 u hj
  | 1,hj=>exact a0 4 u hj
set_option maxRecDepth 8000 in
set_option maxHeartbeats 4000000 in
theorem W2(b:An)(hb:Av b=true)(Sx:Nat)(bv sv:Value)(ss:List Bg)(nm:List UInt8)(R C:Int)(pp:Option Addr)(cl:Bool)(w0 w:World)(g:CQ w0)(hS:Blk w Sx [bv,sv] 63)(hbk:AA w0 bv b)(hx0:Ai w0 w)(h:Cw w sv ss)(hss:∀s∈ss,s.May∧s.rows.new≤1000000∧s.cols.new≤1000000)(hfit:∀t s,Bh b nm=some t→Ec ss nm=some s→s.rows.to.length=t.rows.length∧s.cols.to.length=t.cols.toNat) :
  AF prog 54 [.pointer (some ⟨Sx,0,none⟩),.agg ⟨[Ao nm,.int .i64 R,.int .i64 C,.pointer pp,.bool cl]⟩] w (λv w'=>∃B,v=.map (some B)∧w.heap.size≤B∧D6 w' B 1000 (Jj b ss nm)∧Ai w w'):=by
 obtain⟨ps,pc,rfl⟩:=h.slice;have b1:=hS;refine Bj func54 ntmps54 ?_;refine Sa ?_;refine CM λA w1 bp b2 hA=>?_;replace hA:Blk w1 A [Ao nm,.int .i64 R,.int .i64 C,.pointer pp,.bool cl] 70:=hA;have bq:=b2.size;refine Sa ?_;refine LW.makeMap rfl ?_;intro B w2 br al ad;have bs:=al.size;have bt:=ad.lt;have bu:A<B:=by have:=hA.lt;omega
 replace hA:=hA.ext al;have a0:=b2.trans al;replace hS:=hS.ext a0;refine Sa ?_;refine Ay rfl rfl (Ht b Sx bv _ nm w0 w2 hS hbk (hx0.trans a0)) ?_;rintro v w3 ⟨hv,am⟩;have bw:=am.size;rcases hv with ⟨e,rfl⟩ | ⟨t,q,k,e,rfl,hr⟩
 ·refine Sa ?_;refine Bo λH w4 b7 ae hH=>?_;have b8:=ae.size;refine Sa ?_;refine AD λw5 aj hH=>?_;have a1:Ai w2 w5:=(am.trans ae).step aj AdG;have an:=hS.ext a1;have af:=hA.ext a1;have h5:=h.ext (a0.trans a1);refine Sa ?_;refine Ay rfl rfl (RZ ss _ A nm _ w5 h5 af) ?_;rintro v w6 ⟨rfl,a4⟩;refine Sa ?_;refine QW.body1 rfl rfl ⟨B,rfl,by omega,((ad.ext (a1.trans a4)).mono AdE).congr λr c=>?_,(a0.trans a1).trans a4⟩;unfold Jj;rw[e]
 ·obtain⟨b9,rfl⟩:=B9 hb e;obtain⟨-,tc0,tc1,tr1,trow⟩:=AZ.1 b9;refine Sa ?_;refine Bo λH w4 b7 ae hH=>?_;have b8:=ae.size;have bx:=hH.lt;refine Sa ?_;refine AD λw5 aj hH=>?_;replace hH:Blk w5 H (Am t (.slice q t.rows.length k)) 46:=hH;have a1:Ai w2 w5:=(am.trans ae).step aj AdG;have an:=hS.ext a1;have af:=hA.ext a1;have h5:=h.ext (a0.trans a1);have bz:=aj.size;refine Sa ?_;refine Ay rfl rfl (RZ ss _ A t.name _ w5 h5 af) ?_;rintro v w6 ⟨rfl,a4⟩;have c0:=a4.size;have efind:=KE (ss:=ss) (x:=t.name)
  cases ei:KD ss t.name with
  | none=>
   rw[ei] at efind;refine Sa ?_;refine QW.body1 rfl rfl ⟨B,rfl,by omega,((ad.ext (a1.trans a4)).mono AdE).congr λr c=>?_,(a0.trans a1).trans a4⟩;unfold Jj;rw[e,efind]
   rfl
  | some i=>
   rw[ei] at efind;obtain⟨ba,-⟩:=Ab2.1 ei;obtain⟨s,hs⟩:∃s,ss[i]?=some s:=⟨_,Aap ba⟩;have ef:Ec ss t.name=some s:=by rw[efind];exact hs
   obtain⟨f1,f2⟩:=hfit t s e ef;obtain⟨ak,bb,bc⟩:=hss s (Abn hs);obtain⟨-,-,-,rr⟩:=Bs ak.1;obtain⟨-,-,-,rc⟩:=Bs ak.2;have a8:Ai w w6:=(a0.trans a1).trans a4;have ag:=(ad.ext (a1.trans a4)).congr (g:=HD t s ss t.name 0 0) λr c=>(VW r c).symm;replace hH:=hH.ext a4;refine Sa ?_;refine CW.loop (ι:=Nat) (λn w'=>n≤t.rows.length∧Chg [B] w6 w'∧D6 w' B (n*12) (HD t s ss t.name n 0)) (λn=>[(0,.pointer (some ⟨Sx,0,none⟩)),(3,.pointer (some ⟨A,0,none⟩)),(5,.map (some B)),(8,.int .i64 (i:Int)),(37,.slice q t.rows.length k),(38,.int .i64 (t.rows.length:Int)),(39,.int .i64 (n:Int))]) (λn=>t.rows.length - n) 0 ⟨by omega,Chg.refl _ _,ag.mono AdE⟩ Ff ?_;rintro n w7 ⟨hn,ao,a9⟩;have bd:w.heap.size≤B:=AdE
   have aa:Ai w w7:=a8.step ao AdG;have be:=(an.ext a4).chg ao (by have:=b1.lt;simp;omega);have bf:=af.ext a4;clear hH an af h5 ag ad hA hS;refine Sw ?_;refine A8 (λc1=>?_) λc1=>?_
   ·have c1:n<t.rows.length:=by simp at c1;omega
    obtain⟨row,a6⟩:∃row,t.rows[n]?=some row:=⟨_,Aap c1⟩;obtain⟨a,q2,k2,rfl,-,bg,bh⟩:=Bb.at hr a6;have c4:row.length=t.cols.toNat:=by have:=(trow row (Abn a6)).1;omega
    have ap:=A0 (hx0.trans aa) bh;refine Sw ?_;refine CW.loop (ι:=Nat) (λj w'=>j≤row.length∧Chg [B] w6 w'∧D6 w' B (n*12+j) (HD t s ss t.name n j)) (λj=>[(0,.pointer (some ⟨Sx,0,none⟩)),(3,.pointer (some ⟨A,0,none⟩)),(5,.map (some B)),(8,.int .i64 (i:Int)),(37,.slice (some a) t.rows.length k),(38,.int .i64 (t.rows.length:Int)),(39,.int .i64 (n:Int)),(9,.int .i64 (n:Int)),(44,.slice q2 row.length k2),(45,.int .i64 (row.length:Int)),(46,.int .i64 (j:Int))]) (λj=>row.length - j) 0 ⟨by omega,ao,a9.mono AdE⟩ Qq ?_;rintro j w8 ⟨hj,ah,ab⟩;have a5:Ai w w8:=a8.step ah AdG;have bi:=a8.size;clear be ap aa a9;refine Sw ?_;refine A8 (λc2=>?_) λc2=>?_
    ·have c2:j<row.length:=by simp at c2;omega
     obtain⟨tx,ac⟩:∃tx,row[j]?=some tx:=⟨_,Aap c2⟩;obtain⟨a2,rfl,-,c5,aq⟩:=A2.at bg ac;have bj:=A0 (hx0.trans a5) aq;have ar:=(trow row (Abn a6)).2 tx (Abn ac);have ea:(t.rows.getD n []).getD j []=tx:=by
      rw[show t.rows.getD n []=row by rw[AaF,a6];rfl,AaF,ac];rfl
     refine Sw ?_;have bk:∀w',Ai w8 w'→Blk w' Sx [bv,.slice ps ss.length pc] 63:=λw' hw=>b1.ext (a5.trans hw);obtain⟨a3,rp,rcc,cp,ccc,c3,esv,b3,b4,bl,bm⟩:=WJ (h.ext a5) hs;have ez1:Bd s.rows (n:Int)=s.rows.to.getD n 0:=by rw[Bd,if_neg AdE,if_pos AdE];rfl
     have ez2:Bd s.cols (j:Int)=s.cols.to.getD j 0:=by rw[Bd,if_neg AdE,if_pos AdE];rfl
     have im1:=λw' (hw:Ai w8 w')=>Fq s.rows (May.fine ak).1 _ (n:Int) AdE w' ⟨_,rfl,b3.ext hw⟩;have im2:=λw' (hw:Ai w8 w')=>Fq s.cols (May.fine ak).2 _ (j:Int) AdE w' ⟨_,rfl,b4.ext hw⟩;rw[ez1] at im1;rw[ez2] at im2;have au:=bk w8 (Chg.refl _ _);rw[esv] at au;have b5:=bf.chg ah AdG;have b6:=λw' (hw:Ai w8 w')=>Tj tx t.name ss _ AdE w' (g.ext ((hx0.trans a5).trans hw)) ((h.ext a5).ext hw) λs hs=>(hss s hs).1;rw[esv] at b6;have av:(D7 t.name ss tx).length≤1000000:=by have:=FA (MO (own:=t.name) (λs hs=>(hss s hs).1) ar);omega
     refine CW.drawG (Ai w8) 21 (λw' h=>h) AdF λwa c6=>?_;refine AJ ?_;refine BE 9 λhS=>?_;refine Ay rfl rfl (im1 _ hS) ?_;rintro v w9 ⟨rfl,bn⟩;have hE:=hS.trans bn;clear hS;apply LW.nil;refine QW.headed hE ?_;refine AJ ?_;refine BE 19 λhS=>?_;refine Ay rfl rfl (im2 _ hS) ?_;rintro v bo ⟨rfl,aw⟩;have hE:=hS.trans aw;clear hS;apply LW.nil;refine QW.headed hE ?_;refine AJ ?_;refine GW.tail rfl AdF (λhS=>?_);have a7:=hS;have ax:=ab.ext hS;clear hS im1 im2 b3 b4 bl bm;have miss:(s.rows.to.getD n 0<0∨s.cols.to.getD j 0<0)→∀w',Ai w8 w'→Chg [B] w6 w'∧D6 w' B (n*12+(j+1)) (HD t s ss t.name n (j+1)):=λay w' hw=>
      ⟨(Chg.trans ah hw).mono λx hx _=>by simpa using hx,((ab.ext hw).mono AdE).congr λr c=>(VV ay r c).symm⟩
     rcases rr n AdE with z1 | ⟨z1,z1u,-⟩
     ·rw[z1];refine Sw ?_;exact QW.again (j+1) ⟨by omega,(miss (.inl AdE) _ a7).1,(miss (.inl AdE) _ a7).2⟩ Qq AdE
     ·obtain⟨x,ex⟩:∃x:Nat,s.rows.to.getD n 0=(x:Int):=⟨(s.rows.to.getD n 0).toNat,by omega⟩;rcases rc j AdE with z2 | ⟨z2,z2u,-⟩
      ·rw[ex,z2];refine Sw ?_;exact QW.again (j+1) ⟨by omega,(miss (.inr AdE) _ a7).1,(miss (.inr AdE) _ a7).2⟩ Qq AdE
      ·obtain⟨y,ey⟩:∃y:Nat,s.cols.to.getD j 0=(y:Int):=⟨(s.cols.to.getD j 0).toNat,by omega⟩;rw[ex,ey];refine Sw ?_;replace au:=au.ext a7;replace b5:=b5.ext a7;refine CW.drawG (Ai bo) 12 (λw' h=>h) AdF λwb c7=>?_;refine AJ ?_;refine GW.take 3 rfl rfl rfl rfl (λ_ _=>Y.key rfl rfl) rfl rfl AdF AdF AdF (λ_ _ _ h=>h) ?_;refine AJ ?_;refine BE 11 λhS=>?_;refine Ay rfl rfl (b6 _ (a7.trans hS)) ?_;rintro v c8 ⟨rfl,az⟩;have hE:=hS.trans az;clear hS;apply LW.nil;refine QW.headed hE ?_;refine GW.tail rfl AdF (λhS=>?_);refine LW.mapPut (r:=x) (c:=y) (ax.ext hS) AdE rfl rfl rfl AdE AdE av ?_;intro c9 b0 ai;refine Sw ?_;refine QW.again (j+1) ⟨by omega,?_,?_⟩ Qq AdE
       ·exact(Chg.trans (Chg.trans (Chg.trans ah a7) hS) b0).mono λx hx _=>by simpa using hx
       ·refine(ai.mono AdE).congr λr c=>?_;rw[XW rr rc AdE AdE ex ey,ea]
    ·have c2:j=row.length:=by simp at c2;omega
     subst c2;refine Sw ?_;exact QW.again (n+1) ⟨by omega,ah,(ab.mono AdE).congr λr c=>(XX AdE r c).symm⟩ Ff AdE
   ·have c1:n=t.rows.length:=by simp at c1;omega
    subst c1;refine Sw ?_;exact QW.body1 rfl rfl ⟨B,rfl,bd,(a9.mono AdE).congr λr c=>XV AdE e ef r c,aa⟩
theorem W3(b0 b1 b2 n0 n1 n2:Nat)(f0 f1 f2:Nat→Nat→Option (List UInt8))(r c:Nat)(hr:r≤1000000)(hc:c≤1000000)(w:World)(h0:D6 w b0 n0 f0)(h1:D6 w b1 n1 f1)(h2:D6 w b2 n2 f2) :
  AF prog 55 [.map (some b0),.map (some b1),.map (some b2),QN r c] w (λv w'=>v=.tuple #[Ao (CN (f0 r c) (f1 r c) (f2 r c)).1,.bool (CN (f0 r c) (f1 r c) (f2 r c)).2.isSome]∧Ai w w'):=by
 refine Bj func55 ntmps55 ?_;refine Sa ?_;refine CM λA w1 a0 hx hA=>?_;replace hA:Blk w1 A [.int .i64 (r:Int),.int .i64 (c:Int)] 105:=hA;replace h0:=h0.ext hx;replace h1:=h1.ext hx;replace h2:=h2.ext hx;refine Sa ?_;refine LW.val rfl rfl rfl (Y.look2 h0 rfl rfl hr hc) ?_;refine Sa ?_;refine LW.val rfl rfl rfl (Y.look2 h1 rfl rfl hr hc) ?_;refine Sa ?_;refine LW.val rfl rfl rfl (Y.look2 h2 rfl rfl hr hc) ?_;generalize f0 r c=o0;generalize f1 r c=o1;generalize f2 r c=o2
 cases o2 with
 | none=>
  refine Sa ?_;refine QW.body2 rfl rfl rfl ⟨?_,hx⟩
  cases o1<;>rfl
 | some y=>
  cases o1 with
  | none=>
   refine Sa ?_
   exact QW.body2 rfl rfl rfl ⟨rfl,hx⟩
  | some x=>
   refine Sa ?_;by_cases c1:x=y
   ·refine LW.know (t:=46) (c:=true) rfl (by simpa using c1) ?_;refine Sa ?_;refine QW.body2 rfl rfl rfl ⟨?_,hx⟩;simp[CN,c1]
   refine LW.know (t:=46) (c:=false) rfl (by simpa using c1) ?_
   cases o0 with
   | none=>
    refine Sa ?_;refine QW.body2 rfl rfl rfl ⟨?_,hx⟩
    simp[CN,c1]
   | some z=>
    refine Sa ?_;refine A8 (λc2=>?_) λc2=>?_
    ·have c2:y=z:=by simpa using c2
     refine Sa ?_;refine QW.body2 rfl rfl rfl ⟨?_,hx⟩;simp[CN,c2]
    have c2:¬y=z:=by simpa using c2
    refine Sa ?_;refine A8 (λc3=>?_) λc3=>?_
    ·have c3:x=z:=by simpa using c3
     refine Sa ?_;refine QW.body2 rfl rfl rfl ⟨?_,hx⟩;subst c3;simp[CN,c1]
    have c3:¬x=z:=by simpa using c3
    refine Sa ?_;refine QW.body2 rfl rfl rfl ⟨?_,hx⟩;simp[CN,c1,show ¬z=y from λh=>c2 h.symm,show ¬z=x from λh=>c3 h.symm]
def Ci(c:El):List Value:=[Ao c.sheet,.int .i64 c.row,.int .i64 c.col,Ao c.base,Ao c.ours,Ao c.their]
def EZ(lo:Nat)(w:World)(v:Value)(l:List El):Prop:=Aq 6 lo 49 (λ_ _ cs c=>cs=Ci c) w v l
def Ye(w:World)(cs:List Value)(r:List (List UInt8)):Prop:=∃v,cs=[v]∧Ce w v r
def Qp(U:List Nat)(lo:Nat)(w:World)(v:Value)(l:List (List (List UInt8))):Prop:=Aq 1 lo 47 (λ_ w cs r=>ET U w λw'=>Ye w' cs r) w v l
theorem SafO.step{α:Type}{m lo:Nat}{T:TypeId}{E:World→List Value→α→Prop}{U U' S:List Nat}{w w':World}{v:Value}{l:List α}(h:Aq m lo T (λ_ w cs s=>ET U w λw'=>E w' cs s) w v l)(x:Chg S w w')(hs:∀j,j∈S→j∈U)(hn:∀b,b∈Ac v→b∉S)(hu:∀j,j∈U'→j∈U∨w.heap.size≤j):Aq m lo T (λ_ w cs s=>ET U' w λw'=>E w' cs s) w' v l:=
 Aq.chg h x hn λ_ _ _ _ h=>h.step (x.mono λj hj _=>hs j hj) hu
theorem MR{D:List Deferred}{n:Nat}{E:BW}{w:World}{x:Operand}{dst:Option Tmp}{T ty:TypeId}{pos:String}{af:Array Edge}{q:Option Addr}(hx:ev E x=some (.pointer q)) :
  Y prog D n E w {dst,op:=.binOp .neq 60 x (.const (.pointer none)) ty,type:=T,pos,after:=af,guard:=none} (.bool (!q.isNone)):=λa ha=>by
 have hu:prog.underlying 60=some (.pointer (prog.pointee 60)):=by kernel_rfl
 have hg:(eqGuard .neq 60 x (.const (.pointer none)) (.pointer q) (.pointer none)).run prog w=.ok () w:=by
  cases q<;>simp[eqGuard]
 have e2:a.eval (.const (.pointer none))=.pointer none:=rfl;simp only[execOp,ha.eval hx,e2,AaU,hg,AaG,run_neq_pointer_nil _ _ _ hu,Abp]
section
variable (p:A1) (F:Fin 3→Nat→Nat→Option (List UInt8))
def DY(r c:Nat):List UInt8×Option (List UInt8×List UInt8×List UInt8):=match p.whole with
 | 0=>CN (F 0 r c) (F 1 r c) (F 2 r c)
 | 1=>((F 1 r c).getD [],none)
 | _=>((F 2 r c).getD [],none)
def Cn(r c:Nat):List El:=match (DY p F r c).2 with
 | some (x,y,z)=>[⟨p.name,r,c,x,y,z⟩]
 | none=>[]
def Fk(n r:Nat):List (List UInt8):=(List.range n).map λc=>(DY p F r c).1
def AE:List El:=if p.clash=true then[⟨p.name,-1,-1,[],[],[]⟩] else[]
def Bc(n r:Nat):List El:=(List.range n).flatMap λc=>Cn p F r c
def ZM(w:World)(v:Value):Prop:=(p.whole=0∧v=.map none)∨(p.whole≠0∧∃B,v=.map (some B)∧D6 w B 1000 (if p.whole=1 then F 1 else F 2))
end
theorem Oj(g:Nat→List UInt8){n k:Nat}(h:k<n):((((List.range k).map g++List.replicate (n - k) []).map Ao).set k (Ao (g k)))=((List.range (k+1)).map g++List.replicate (n - (k+1)) []).map Ao:=by
 rw[←List.map_set,Ach _ _ AdM,AbA,Ac8,Acz,show n - k=(n - (k+1))+1 by omega,Acf,AcA,AbJ,AbG (f:=g),AaR];rfl
theorem DQ{w:World}{T:Nat}{l:List (List UInt8)}(h:Blk w T (l.map Ao) 9)(hl:l.length≤1000000)(ht:∀t∈l,t.length≤1000000):Ce w (.slice (some ⟨T,0,none⟩) l.length l.length) l:=
 ⟨hl,.inr ⟨⟨T,0,none⟩,l.length,rfl,λ_=>trivial,λi x hi=>⟨[Ao x],rfl,⟨rfl,ht x (Abn hi)⟩,λj u hj=>by
  match j,hj with
  | 0,hj=>
   obtain rfl:=Abm hj;rw[Au,Au];refine h.cell ?_;rw[show 0+i*1+0=i by omega,Ab1,hi];rfl⟩⟩⟩
theorem Vb{o a b:Option (List UInt8)}{x y z:List UInt8}(h:(CN o a b).2=some (x,y,z)):x=o.getD []∧y=a.getD []∧z=b.getD []:=by
 cases a with
 | none=>cases h
 | some a=>
  cases b with
  | none=>cases h
  | some b=>
   simp only[CN] at h
   split at h
   ·cases h
   ·split at h
    ·cases h
    ·cases h;exact⟨rfl,rfl,rfl⟩
theorem flat_len{α:Type}{g:Nat→Nat→List α}{r:Nat}(h:∀r c,(g r c).length≤1):∀n,((List.range n).flatMap (g r)).length≤n
 | 0=>by simp
 | n+1=>by
  have:=flat_len (r:=r) h n;have:=h r n;rw[AbJ,AbF,Acd,Aaq];omega
theorem KC{α:Type}{g:Nat→List α}{m:Nat}(h:∀r,(g r).length≤m):∀n,((List.range n).flatMap g).length≤n*m
 | 0=>by simp
 | n+1=>by
  have:=KC h n;have:=h n;rw[AbJ,AbF,Acd,Aaq,Acg];omega
theorem M9{o:Option (List UInt8)}(h:∀t,o=some t→t.length≤1000000):(o.getD []).length≤1000000:=by
 cases o with
 | none=>simp
 | some t=>exact h t rfl
theorem UZ{p:A1}{F:Fin 3→Nat→Nat→Option (List UInt8)}(hF:∀i r c t,F i r c=some t→t.length≤1000000)(r c:Nat):(DY p F r c).1.length≤1000000:=by
 unfold DY
 split
 ·unfold CN
  split
  ·exact M9 (hF 2 r c)
  ·rename_i x h _;exact hF 1 r c x h
  ·rename_i x y h1 h2
   split
   ·exact hF 1 r c x h1
   ·split
    ·exact hF 2 r c y h2
    ·exact hF 1 r c x h1
 ·exact M9 (hF 1 r c)
 ·exact M9 (hF 2 r c)
section
variable {w:World} {M:Nat} {S:Fin 3→Nat} {out:Value} {p:A1} {F:Fin 3→Nat→Nat→Option (List UInt8)}
set_option maxRecDepth 8000 in
set_option maxHeartbeats 4000000 in
theorem Ve(V:List Nat)(hV:∀j∈V,j<w.heap.size)(hM:Blk w M [ptr (S 0),ptr (S 1),ptr (S 2),out] 66)(R C:Nat)(hR:p.rows=(R:Int))(hC:p.cols=(C:Int))(hRl:R≤24)(hCl:C≤12)(_hnl:p.name.length≤1000000)
  (hF:∀i r c t,F i r c=some t→t.length≤1000000)
  (ht:∀i w',Ai w w'→AF prog 54 [.pointer (some ⟨S i,0,none⟩),.agg ⟨F9 S p⟩] w' (λv w''=>∃B,v=.map (some B)∧w'.heap.size≤B∧D6 w'' B 1000 (F i)∧Ai w' w'')) :
  AF prog 31 [.pointer (some ⟨M,0,none⟩),.agg ⟨F9 S p⟩] w (λv w'=>∃rv cv,v=.tuple #[.agg ⟨Am ⟨p.name,p.cols,(List.range R).map (Fk p F C)⟩ rv⟩,cv]∧Qp V w.heap.size w' rv ((List.range R).map (Fk p F C))∧EZ w.heap.size w' cv (AE p++(List.range R).flatMap (Bc p F C))∧Ai w w'):=by
 obtain⟨pp,ewv⟩:∃pp,KZ S p.whole=.pointer pp:=by
  match p.whole with
  | 0=>exact⟨_,rfl⟩
  | 1=>exact⟨_,rfl⟩
  | _+2=>exact⟨_,rfl⟩
 have emL:F9 S p=[Ao p.name,.int .i64 (R:Int),.int .i64 (C:Int),.pointer pp,.bool p.clash]:=by rw[F9,ewv,hR,hC]
 rw[emL] at ht ⊢;refine Bj func31 ntmps31 ?_;apply CW.seq;apply CW.region;refine Sl ?_;refine CM λX w1 dd bo hX=>?_;replace hX:Blk w1 X [Ao p.name,.int .i64 (R:Int),.int .i64 (C:Int),.pointer pp,.bool p.clash] 70:=hX;refine Sl ?_;refine Bo λZ w2 de bh hZ=>?_;have ay:=bo.trans bh;have df:=bo.size;have dg:=bh.size;have dh:=hX.lt;have di:=hZ.lt;replace hX:=hX.ext bh;refine Sa ?_;refine Bo λH w3 dj bp hH=>?_;have dk:=bp.size;have dl:=hH.lt;refine Sa ?_;refine AD λw4 bq hH=>?_;replace hH:Blk w4 H [Ao p.name,.int .i64 (C:Int),.slice none 0 0] 46:=hH;have af:Ai w2 w4:=bp.step bq AdG;have cr:=bq.size;replace hX:=hX.ext af;replace hZ:=hZ.ext af;have az:=ay.trans af;apply LW.nil;apply QW.then_n;apply CW.seq;apply CW.region;refine Sl ?_;apply LW.nil;apply QW.then_n;refine CW.seq_cut (ι:=Value) (λcv w'=>Ai w4 w'∧EZ w4.heap.size w' cv (AE p)) (λcv=>[(0,.pointer (some ⟨M,0,none⟩)),(3,.pointer (some ⟨X,0,none⟩)),(4,.pointer (some ⟨Z,0,none⟩)),(6,.pointer (some ⟨H,0,none⟩)),(7,cv)]) ?_ ?_
 ·clear ht
  cases ecl:p.clash with
  | false=>
   rw[ecl] at hX;refine Sa ?_
   exact QW.head (.slice none 0 0) ⟨Chg.refl _ _,by rw[AE,ecl];exact Aq.nil⟩ Et
  | true=>
   rw[ecl] at hX;refine Sa ?_;refine Dt λD w5 cd ah hD=>?_;replace hD:Blk w5 D (Ci ⟨p.name,-1,-1,[],[],[]⟩) 49:=hD;refine Sa ?_;refine LW.append (lo:=w4.heap.size) (k:=0) rfl rfl rfl rfl rfl rfl (E.Own.nil _ _ _ _) (by have:=ah.size;omega) hD rfl rfl rfl (by show(0+1)*81≤140737488355328;decide) rfl ?_;intro v6 w6 ct cu dm;refine Sa ?_;refine QW.head v6 ⟨ah.trans (ct.mono λb hb _=>by simp[Ac] at hb),?_⟩ Et;rw[AE,if_pos ecl];exact Aq.snoc (l:=[]) (css:=[]) rfl AdM cu rfl (λi y ds h=>by simp at h) rfl
 rintro cv w5 ⟨ah,br⟩;have ce:=hX.ext ah;have cf:=hH.ext ah;have cg:=hZ.ext ah;have ac:=az.trans ah;have cw:=hM.ext ac;have cx:=af.size;have dn:=ah.size;have ci:∀j∈Ac cv,w4.heap.size≤j∧j<w5.heap.size:=λj hj=>Aq.lt br hj;clear hX hH hZ bo bh bp ay af bq;refine Sw ?_;refine CW.drawG (Ai w5) 20 (λw' h=>h) AdF λwa bi=>?_;refine AJ ?_;refine BE 5 λhS=>?_;refine Ay rfl rfl (ht 0 _ (ac.trans hS)) ?_;rintro v w6 ⟨b0,rfl,l0,an,cj⟩;have hE:=hS.trans cj;have q0:=hS.size;clear hS;apply LW.nil;refine QW.headed hE ?_;refine AJ ?_;refine BE 11 λhS=>?_;refine Ay rfl rfl (ht 1 _ (ac.trans hS)) ?_;rintro v w7 ⟨b1,rfl,l1,aw,bs⟩;replace an:=an.ext bs;have hE:=hS.trans bs;have q1:=hS.size;clear hS;apply LW.nil;refine QW.headed hE ?_;refine AJ ?_;refine BE 17 λhS=>?_;refine Ay rfl rfl (ht 2 _ (ac.trans hS)) ?_;rintro v w8 ⟨b2,rfl,l2,bj,bk⟩;replace an:=an.ext bk;replace aw:=aw.ext bk;have q2:=hS.size;have hE:=hS.trans bk;clear hS;apply LW.nil;refine QW.headed hE ?_;refine AJ ?_;refine GW.tail rfl AdF (λhS=>?_);have bt:=ce.ext hS;have bu:=cf.ext hS;have bv:=cg.ext hS;have ai:=ac.trans hS;have ck:EZ w4.heap.size w8 cv (AE p):=Aq.ext' br hS λ_ _ _ _ h=>h;have q3:=hS.size;clear ce cf cg cw br hE cj bs bi hM;refine Sl ?_;apply LW.nil;apply QW.then_n;apply CW.seq;apply CW.region;refine Sl ?_;apply LW.nil;apply QW.then_n;refine CW.seq_cut (ι:=Value) (λwm w'=>Ai w8 w'∧ZM p F w' wm∧∀B,wm=.map (some B)→w8.heap.size≤B) (λwm=>[(0,.pointer (some ⟨M,0,none⟩)),(3,.pointer (some ⟨X,0,none⟩)),(4,.pointer (some ⟨Z,0,none⟩)),(6,.pointer (some ⟨H,0,none⟩)),(7,cv),(8,.map (some b0)),(9,.map (some b1)),(10,.map (some b2)),(11,wm)]) ?_ ?_
 ·rcases(show p.whole=0∨p.whole=1∨2≤p.whole by omega) with ew | ew | ew
  ·have epp:pp=none:=by rw[ew] at ewv;cases ewv;rfl
   subst epp;refine Sa ?_;refine LW.val rfl rfl rfl (MR rfl) ?_;refine Sa ?_;exact QW.head (Value.map none) ⟨Chg.refl _ _,.inl ⟨ew,rfl⟩,λB e=>by cases e⟩ UP
  ·have epp:pp=some ⟨S 1,0,none⟩:=by rw[ew] at ewv;cases ewv;rfl
   subst epp;refine Sa ?_;refine LW.val rfl rfl rfl (MR rfl) ?_;refine Sa ?_;refine Ay rfl rfl (ht 1 _ ai) ?_;rintro v w9 ⟨B,rfl,lB,ax,ab⟩;refine Sa ?_;exact QW.head (Value.map (some B)) ⟨ab,.inr ⟨by omega,B,rfl,by rw[if_pos ew];exact ax⟩,λB' e=>by cases e;exact lB⟩ UP
  ·have epp:pp=some ⟨S 2,0,none⟩:=by
    obtain⟨k,ek⟩:∃k,p.whole=k+2:=⟨p.whole - 2,by omega⟩;rw[ek] at ewv;cases ewv;rfl
   subst epp;refine Sa ?_;refine LW.val rfl rfl rfl (MR rfl) ?_;refine Sa ?_;refine Ay rfl rfl (ht 2 _ ai) ?_;rintro v w9 ⟨B,rfl,lB,ax,ab⟩;refine Sa ?_;exact QW.head (Value.map (some B)) ⟨ab,.inr ⟨by omega,B,rfl,by rw[if_neg AdE];exact ax⟩,λB' e=>by cases e;exact lB⟩ UP
 rintro wm w9 ⟨ab,hW,cl⟩;replace bt:=bt.ext ab;replace bu:=bu.ext ab;replace bv:=bv.ext ab;replace an:=an.ext ab;replace aw:=aw.ext ab;replace bj:=bj.ext ab;have bw:=ai.trans ab;have cy:EZ w4.heap.size w9 cv (AE p):=Aq.ext' ck ab λ_ _ _ _ h=>h;have q4:=ab.size;have lb0:=an.lt;have lb1:=aw.lt;have lb2:=bj.lt;have fr0:∀U:List Nat,(∀j∈U,j=H∨j∈Ac cv∨w9.heap.size≤j)→X∉U∧Z∉U∧b0∉U∧b1∉U∧b2∉U∧∀B,wm=.map (some B)→B<w9.heap.size→B∉U:=λU hU=>by
  have key:∀b,b≠H→(b<w4.heap.size∨w5.heap.size≤b)→b<w9.heap.size→b∉U:=λb h1 h2 h3 hb=>by
   rcases hU b hb with h | h | h
   ·exact h1 h
   ·have:=ci b h;omega
   ·omega
  exact⟨key X AdE (.inl AdE) AdE,key Z AdE (.inl AdE) AdE,key b0 AdE (.inr AdE) AdE,key b1 AdE (.inr AdE) AdE,key b2 AdE (.inr AdE) AdE,λB e hl=>key B (by have:=cl B e;omega) (.inr (by have:=cl B e;omega)) hl⟩
 clear bk ck ht ab ai ac az ah;refine Sw ?_;refine CW.loop (ι:=Nat×Value×Value) (λx w'=>x.1≤R∧Chg (H::Ac cv) w9 w'∧Blk w' H [Ao p.name,.int .i64 (C:Int),x.2.1] 46∧Qp (Z::H::(V++(Ac x.2.1++Ac x.2.2))) w9.heap.size w' x.2.1 ((List.range x.1).map (Fk p F C))∧EZ w4.heap.size w' x.2.2 (AE p++(List.range x.1).flatMap (Bc p F C))∧∀j∈Ac x.2.2,j∈Ac cv∨w9.heap.size≤j) (λx=>[(3,.pointer (some ⟨X,0,none⟩)),(4,.pointer (some ⟨Z,0,none⟩)),(6,.pointer (some ⟨H,0,none⟩)),(7,x.2.2),(8,.map (some b0)),(9,.map (some b1)),(10,.map (some b2)),(11,wm),(57,.int .i64 (R:Int)),(58,.int .i64 (x.1:Int))]) (λx=>R - x.1) (0,.slice none 0 0,cv) ⟨by omega,Chg.refl _ _,bu,Aq.nil,by simpa using cy,λj hj=>.inl hj⟩ Hx ?_;rintro⟨r,rv,cv1⟩ cz ⟨hr,a3,b3,a8,a4,aj⟩;dsimp only at hr b3 a8 a4 aj;show CW _ _ _ _ _ [(3,.pointer (some ⟨X,0,none⟩)),(4,.pointer (some ⟨Z,0,none⟩)),(6,.pointer (some ⟨H,0,none⟩)),(7,_),(8,.map (some b0)),(9,.map (some b1)),(10,.map (some b2)),(11,wm),(57,.int .i64 (R:Int)),(58,.int .i64 (r:Int))] _;obtain⟨rp,rc,rfl⟩:=Aq.slice a8;obtain⟨vp,vc,rfl⟩:=Aq.slice a4;have nZ0:=λh=>(Aq.lt a8 (b:=Z) h).1;have nZ1:=λh=>(Aq.lt a4 (b:=Z) h).1;have fr1:=fr0 (H::Ac cv) (λj hj=>by
  rcases AaT.1 hj with h | h
  ·exact .inl h
  ·exact .inr (.inl h))
 have ak:=bt.chg a3 fr1.1;have b4:=bv.chg a3 fr1.2.1;have z10:=a3.size;refine Sw ?_;refine A8 (λc1=>?_) λc1=>?_
 ·have c1:r<R:=by simp at c1;omega
  refine Sw ?_;refine LW.makeSlice (m:=C) rfl rfl rfl rfl rfl rfl rfl AdE rfl rfl ?_;intro T ws dp ao hT;have zs:=ao.size;have lT:=hT.lt;replace ak:=ak.ext ao;have b5:=(an.chg a3 fr1.2.2.1).ext ao;have b6:=(aw.chg a3 fr1.2.2.2.1).ext ao;have b7:=(bj.chg a3 fr1.2.2.2.2.1).ext ao;have d0:EZ w4.heap.size ws (.slice vp (AE p++(List.range r).flatMap (Bc p F C)).length vc) (AE p++(List.range r).flatMap (Bc p F C)):=Aq.ext' a4 ao λ_ _ _ _ h=>h;rw[show List.replicate C (Value.string ⟨⟨[]⟩⟩)=((List.range 0).map (λc=>(DY p F r c).1)++List.replicate (C - 0) []).map Ao by simp] at hT;have fr2:∀U:List Nat,(∀j∈U,j=T∨j∈Ac (.slice vp (AE p++(List.range r).flatMap (Bc p F C)).length vc)∨ws.heap.size≤j)→X∉U∧b0∉U∧b1∉U∧b2∉U∧∀B,wm=.map (some B)→B<w9.heap.size→B∉U:=λU hU=>by
   obtain⟨f1,f2,f3,f4,f5,f6⟩:=fr0 U (λj hj=>by
    rcases hU j hj with h | h | h
    ·exact .inr (.inr AdE)
    ·exact .inr (aj j h)
    ·exact .inr (.inr AdE))
   exact⟨f1,f3,f4,f5,f6⟩
  refine Sw ?_;refine CW.loop (ι:=Nat×Value) (λx w'=>x.1≤C∧Chg (T::Ac (.slice vp (AE p++(List.range r).flatMap (Bc p F C)).length vc)) ws w'∧Blk w' T (((List.range x.1).map (λc=>(DY p F r c).1)++List.replicate (C - x.1) []).map Ao) 9∧EZ w4.heap.size w' x.2 (AE p++(List.range r).flatMap (Bc p F C)++(List.range x.1).flatMap (Cn p F r))∧∀j∈Ac x.2,j∈Ac (.slice vp (AE p++(List.range r).flatMap (Bc p F C)).length vc)∨ws.heap.size≤j) (λx=>[(3,.pointer (some ⟨X,0,none⟩)),(4,.pointer (some ⟨Z,0,none⟩)),(6,.pointer (some ⟨H,0,none⟩)),(7,x.2),(8,.map (some b0)),(9,.map (some b1)),(10,.map (some b2)),(11,wm),(57,.int .i64 (R:Int)),(58,.int .i64 (r:Int)),(12,.int .i64 (r:Int)),(13,.slice (some ⟨T,0,none⟩) C C),(65,.int .i64 (C:Int)),(66,.int .i64 (x.1:Int))]) (λx=>C - x.1) (0,.slice vp (AE p++(List.range r).flatMap (Bc p F C)).length vc) ⟨by omega,Chg.refl _ _,hT,by simpa using d0,λj hj=>.inl hj⟩ TV ?_;rintro⟨c,cv2⟩ ap ⟨hc,a0,ag,a9,a2⟩;dsimp only at hc ag a9 a2;show CW _ _ _ _ _ [(3,.pointer (some ⟨X,0,none⟩)),(4,.pointer (some ⟨Z,0,none⟩)),(6,.pointer (some ⟨H,0,none⟩)),(7,cv2),(8,.map (some b0)),(9,.map (some b1)),(10,.map (some b2)),(11,wm),(57,.int .i64 (R:Int)),(58,.int .i64 (r:Int)),(12,.int .i64 (r:Int)),(13,.slice (some ⟨T,0,none⟩) C C),(65,.int .i64 (C:Int)),(66,.int .i64 (c:Int))] _;obtain⟨up,uc,rfl⟩:=Aq.slice a9;refine Sw ?_;refine A8 (λc2=>?_) λc2=>?_
  ·have c2:c<C:=by simp at c2;omega
   have zz11:=a0.size;have d1:=λb (h:b∈Ac (Value.slice vp (AE p++(List.range r).flatMap (Bc p F C)).length vc))=>Aq.lt a4 h;have f11:=fr2 (T::Ac (.slice vp (AE p++(List.range r).flatMap (Bc p F C)).length vc)) (λj hj=>by
    rcases AaT.1 hj with h | h
    ·exact .inl h
    ·exact .inr (.inl h))
   refine Sw ?_;refine LW.val rfl rfl rfl (Y.key rfl rfl) ?_;refine Sa ?_;refine Bo λK cm dq a6 hK=>?_;refine Sa ?_;refine AD λbl ad hK=>?_;replace hK:Blk bl K [.int .i64 (r:Int),.int .i64 (c:Int)] 105:=hK;have bx:=a6.size;have a5:Ai ap bl:=a6.step ad AdG;have b8:=(ak.chg a0 f11.1).ext a5;have b9:=(b5.chg a0 f11.2.1).ext a5;have ba:=(b6.chg a0 f11.2.2.1).ext a5;have bb:=(b7.chg a0 f11.2.2.2.1).ext a5;have bc:=ag.ext a5;have nTv:T∉Ac (Value.slice up (AE p++(List.range r).flatMap (Bc p F C)++(List.range c).flatMap (Cn p F r)).length uc):=λh=>by
    rcases a2 T h with h | h
    ·have:=(d1 T h).2;omega
    ·omega
   have bz:=a5.size;clear ak b5 b6 b7 ag a6 ad;refine Sa ?_;rcases hW with ⟨ew,rfl⟩ | ⟨ew,B,rfl,ax⟩
   ·have epp:pp=none:=by rw[ew] at ewv;cases ewv;rfl
    subst epp;have ecf:DY p F r c=CN (F 0 r c) (F 1 r c) (F 2 r c):=by rw[DY,ew];rfl
    have h3:=W3 b0 b1 b2 _ _ _ (F 0) (F 1) (F 2) r c AdE AdE bl b9 ba bb;rw[←ecf] at h3;refine LW.val rfl rfl rfl (MR rfl) ?_;refine Sa ?_;refine Ay rfl rfl h3 ?_;rintro v c0 ⟨rfl,aa⟩;have aq:=bc.ext aa;refine Sa ?_;refine Lo ?_;refine LW.store (i:=0+((c:Nat):Int).toNat*1) (by show some (Value.pointer (some (Addr.add ⟨T,0,none⟩ (((c:Nat):Int).toNat*1))))=_;rw[Au]) rfl rfl aq (AbD (by show _+1≤_;simp;omega)) rfl rfl λbd a7 ae=>?_;rw[show 0+((c:Nat):Int).toNat*1=c by omega,Oj (λc=>(DY p F r c).1) c2] at ae;have a1:Chg [T] ap bd:=(Chg.trans (a5.trans aa) a7).mono λb hb _=>by simpa using hb
    have al:=Aq.chg (R':=λ_ _ cs c=>cs=Ci c) a9 a1 (λb hb hm=>by
     simp only[Aad] at hm;exact nTv (hm ▸ hb)) λ_ _ _ _ h=>h
    cases ecd:(DY p F r c).2 with
    | none=>
     refine Sw ?_;refine QW.again (c+1,(Value.slice up (AE p++(List.range r).flatMap (Bc p F C)++(List.range c).flatMap (Cn p F r)).length uc)) ⟨by show c+1≤C;omega,?_,ae,?_,a2⟩ TV Ae3
     ·exact(Chg.trans a0 a1).mono λb hb _=>by
       rcases Abf.1 hb with hb | hb
       ·exact hb
       ·simp only[Aad] at hb;subst hb;exact Abo ..
     ·show EZ _ _ _ (AE p++(List.range r).flatMap (Bc p F C)++(List.range (c+1)).flatMap (Cn p F r));rw[AbJ,AbF,Acd,show Cn p F r c=[] by rw[Cn,ecd],Aby]
      exact al
    | some q=>
     obtain⟨x,y,z⟩:=q;obtain⟨rfl,rfl,rfl⟩:=Vb (by rw[←ecf];exact ecd);obtain⟨nX2,n0,n1,n2,-⟩:=fr2 (Ac (Value.slice up (AE p++(List.range r).flatMap (Bc p F C)++(List.range c).flatMap (Cn p F r)).length uc)) (λj hj=>(a2 j hj).elim (λh=>.inr (.inl h)) λh=>.inr (.inr h));have nK2:K∉Ac (Value.slice up (AE p++(List.range r).flatMap (Bc p F C)++(List.range c).flatMap (Cn p F r)).length uc):=λh=>by have:=(Aq.lt a9 h).2;omega
     have cn:=b8.lt;have nTX:X∉[T]:=AdG
     have d2:=(b8.ext aa).chg a7 nTX;have d4:=(hK.ext aa).chg a7 AdG;have c3:=(b9.ext aa).chg a7 AdG;have c4:=(ba.ext aa).chg a7 AdG;have c5:=(bb.ext aa).chg a7 AdG;obtain⟨css,g1,g2,g3,g4⟩:=al;have d5:=a1.size;have lcl:(AE p++(List.range r).flatMap (Bc p F C)++(List.range c).flatMap (Cn p F r)).length≤100000:=by
      have e1:∀r c,(Cn p F r c).length≤1:=λr c=>by unfold Cn;split<;>simp
      have e2:∀(n r:Nat),((List.range n).flatMap (Cn p F r)).length≤n:=λn r=>flat_len e1 n;have e3:((List.range r).flatMap (Bc p F C)).length≤r*C:=KC (λr=>e2 C r) r;have e4:(AE p).length≤1:=by unfold AE;split<;>simp
      have e5:=e2 c r;have:r*C≤24*12:=AcJ AdE hCl;simp only[Aaq];omega
     refine Sw ?_;refine CW.drawG (Chg (Ac (Value.slice up (AE p++(List.range r).flatMap (Bc p F C)++(List.range c).flatMap (Cn p F r)).length uc)) bd) 17 (λw' h=>h.chg) AdF λwa bi=>?_;refine Sg ?_;refine AJ ?_;refine Sg ?_;refine AJ ?_;refine GW.take 7 rfl rfl rfl rfl (λw' hw=>Y.look (c3.chg hw n0) rfl rfl AdE AdE rfl) rfl rfl AdF AdF AdF (λ_ _ _ h=>h) ?_;refine GW.take 10 rfl rfl rfl rfl (λw' hw=>Y.look (c4.chg hw n1) rfl rfl AdE AdE rfl) rfl rfl AdF AdF AdF (λ_ _ _ h=>h) ?_;refine GW.take 13 rfl rfl rfl rfl (λw' hw=>Y.look (c5.chg hw n2) rfl rfl AdE AdE rfl) rfl rfl AdF AdF AdF (λ_ _ _ h=>h) ?_;refine AJ ?_;refine BE 15 λhS=>?_;refine Dt λD d6 cd ar hD=>?_;replace hD:Blk d6 D (Ci ⟨p.name,r,c,(F 0 r c).getD [],(F 1 r c).getD [],(F 2 r c).getD []⟩) 49:=hD;have dr:=bi.size;have d7:=ar.size;have hE:=hS.ext ar;apply LW.nil;refine QW.headed hE ?_;refine BE 16 λhS=>?_;refine LW.append (lo:=w4.heap.size) (k:=(AE p++(List.range r).flatMap (Bc p F C)++(List.range c).flatMap (Cn p F r)).length) rfl rfl rfl rfl rfl rfl ((g3.ext bi).ext ar) AdE hD rfl rfl rfl (by show(_+1)*81≤_;omega) rfl ?_;intro v17 d8 c6 c7 c8;have hE:=hE.same c6;apply LW.nil;refine QW.headed hE ?_;refine AJ ?_;refine GW.tail rfl AdF (λhS=>?_);have co:Chg (Ac (Value.slice up (AE p++(List.range r).flatMap (Bc p F C)++(List.range c).flatMap (Cn p F r)).length uc)) bd d8:=hE;have c9:=ae.chg co nTv;refine Sw ?_;refine QW.again (c+1,v17) ⟨by show c+1≤C;omega,?_,c9,?_,?_⟩ TV Ae3
     ·refine(Chg.trans (Chg.trans a0 a1) co).mono λb hb hl=>?_;rcases Abf.1 hb with hb | hb
      ·rcases Abf.1 hb with hb | hb
       ·exact hb
       ·simp only[Aad] at hb;subst hb;exact Abo ..
      ·rcases a2 b hb with h | h
       ·exact Abj _ h
       ·omega
     ·show EZ _ _ _ (AE p++(List.range r).flatMap (Bc p F C)++(List.range (c+1)).flatMap (Cn p F r));rw[AbJ,AbF,Acd,show Cn p F r c=[⟨p.name,r,c,(F 0 r c).getD [],(F 1 r c).getD [],(F 2 r c).getD []⟩] by rw[Cn,ecd],←List.append_assoc];exact Aq.snoc g1 g2 c7 rfl (λi y ds hi hd=>g4 i y ds hi hd) rfl
     ·intro j hj;rcases c8 j hj with h | h
      ·exact a2 j h
      ·exact .inr AdE
   ·obtain⟨a,epp⟩:∃a,pp=some a:=by
     rcases(show p.whole=1∨2≤p.whole by omega) with e | e
     ·rw[e] at ewv;cases ewv;exact⟨_,rfl⟩
     ·obtain⟨k,ek⟩:∃k,p.whole=k+2:=⟨p.whole - 2,by omega⟩;rw[ek] at ewv;cases ewv;exact⟨_,rfl⟩
    subst epp;have ecf:DY p F r c=(((if p.whole=1 then F 1 else F 2) r c).getD [],none):=by
     rcases(show p.whole=1∨2≤p.whole by omega) with e | e
     ·rw[if_pos e,DY,e];rfl
     ·obtain⟨k,ek⟩:∃k,p.whole=k+2:=⟨p.whole - 2,by omega⟩;rw[if_neg AdE,DY,ek];rfl
    have cp:=ax.lt;have be:=(((ax.chg a3 (fr1.2.2.2.2.2 B rfl cp)).ext ao).chg a0 (f11.2.2.2.2 B rfl cp)).ext a5;refine LW.val rfl rfl rfl (MR rfl) ?_;refine Sa ?_;refine LW.val rfl rfl rfl (Y.look be rfl rfl AdE AdE rfl) ?_;refine Lo ?_;refine LW.store (i:=0+((c:Nat):Int).toNat*1) (by show some (Value.pointer (some (Addr.add ⟨T,0,none⟩ (((c:Nat):Int).toNat*1))))=_;rw[Au]) rfl rfl bc (AbD (by show _+1≤_;simp;omega)) rfl rfl λbd a7 ae=>?_;rw[show((if p.whole=1 then F 1 else F 2) r c).getD []=(DY p F r c).1 by rw[ecf],show 0+((c:Nat):Int).toNat*1=c by omega,Oj (λc=>(DY p F r c).1) c2] at ae;have a1:Chg [T] ap bd:=(Chg.trans a5 a7).mono λb hb _=>by simpa using hb
    have al:=Aq.chg (R':=λ_ _ cs c=>cs=Ci c) a9 a1 (λb hb hm=>by
     simp only[Aad] at hm;exact nTv (hm ▸ hb)) λ_ _ _ _ h=>h
    refine Sw ?_;refine QW.again (c+1,(Value.slice up (AE p++(List.range r).flatMap (Bc p F C)++(List.range c).flatMap (Cn p F r)).length uc)) ⟨by show c+1≤C;omega,?_,ae,?_,a2⟩ TV Ae3
    ·exact(Chg.trans a0 a1).mono λb hb _=>by
      rcases Abf.1 hb with hb | hb
      ·exact hb
      ·simp only[Aad] at hb;subst hb;exact Abo ..
    ·show EZ _ _ _ (AE p++(List.range r).flatMap (Bc p F C)++(List.range (c+1)).flatMap (Cn p F r));rw[AbJ,AbF,Acd,show Cn p F r c=[] by rw[Cn,ecf],Aby];exact al
  ·have c2:c=C:=by simp at c2;omega
   subst c2;have nT:T<ws.heap.size:=lT;have bm:Chg (Ac (.slice vp (AE p++(List.range r).flatMap (Bc p F c)).length vc)) cz ap:=(Chg.trans ao a0).mono λb hb hl=>by
    simp only[Ab5] at hb;rcases AaT.1 hb with rfl | hb
    ·omega
    ·exact hb
   have ca:=b3.chg bm λh=>by have:=(Aq.lt a4 h).1;omega
   have apart:∀b,b∈Ac (.slice rp ((List.range r).map (Fk p F c)).length rc)→b∉Ac (.slice vp (AE p++(List.range r).flatMap (Bc p F c)).length vc):=λb h1 h2=>by
    obtain⟨_,_,_,o1,_⟩:=a8;obtain⟨_,_,_,o2,_⟩:=a4;obtain⟨_,⟨e,_⟩ | ⟨g,cap,sp,e,hB,_⟩⟩:=o2
    ·rw[e] at h2;simp[Ac] at h2
    ·rw[e] at h2;simp[Ac] at h2;subst h2;exact absurd (Own.type o1 h1 hB) AdH
   obtain⟨css,g1,g2,g3,g4⟩:=SafO.step (U':=Z::H::(V++(Ac (.slice rp ((List.range r).map (Fk p F c)).length rc)++Ac (.slice up (AE p++(List.range r).flatMap (Bc p F c)++(List.range c).flatMap (Cn p F r)).length uc)))) a8 bm (λj hj=>Abj _ (Abj _ (AbN _ (AbN _ hj)))) apart (λj hj=>by
    simp only[AaT,Abf] at hj ⊢;rcases hj with hj | hj | hj | hj | hj
    ·exact .inl (.inl hj)
    ·exact .inl (.inr (.inl hj))
    ·exact .inl (.inr (.inr (.inl hj)))
    ·exact .inl (.inr (.inr (.inr (.inl hj))))
    ·rcases a2 j hj with h | h
     ·exact .inl (.inr (.inr (.inr (.inr h))))
     ·exact .inr AdE)
   rw[show((List.range c).map (λc=>(DY p F r c).1)++List.replicate (c - c) [])=Fk p F c r by simp[Fk]] at ag;have d9:(Fk p F c r).length=c:=by simp[Fk]
   have cb:∀t∈Fk p F c r,t.length≤1000000:=λt da=>by
    obtain⟨q,-,rfl⟩:=AbE.1 da;exact UZ hF r q
   have db:=bm.size;have cq:=a0.size;refine Sw ?_;refine Dt λD cm cd a6 hD=>?_;replace hD:Blk cm D [.slice (some ⟨T,0,none⟩) c c] 47:=hD;have bx:=a6.size;refine Sa ?_;refine LW.append (lo:=w9.heap.size) (k:=((List.range r).map (Fk p F c)).length) rfl rfl rfl rfl rfl rfl (g3.ext a6) AdE hD rfl rfl rfl (by rw[AbA,Ac8];show(r+1)*25≤140737488355328;omega) rfl ?_;intro v13 bl ad bf au;have am:=(ca.ext a6).chg ad λh=>by have:=(g3.lt h).1;omega
   have bz:=ad.size;obtain⟨wp,wc,rfl⟩:=bf.slice;refine Sa ?_;refine CR λc0 av am=>?_;replace am:Blk c0 H [Ao p.name,.int .i64 (c:Int),.slice wp (((List.range r).map (Fk p F c)).length+1) wc] 46:=am;have dc:=av.size;have bg:=λb (h:b∈Ac (Value.slice rp ((List.range r).map (Fk p F c)).length rc))=>Aq.lt a8 h;have cc:=λb (h:b∈Ac (Value.slice vp (AE p++(List.range r).flatMap (Bc p F c)).length vc))=>Aq.lt a4 h;have bn:Chg (H::Ac (.slice rp ((List.range r).map (Fk p F c)).length rc)) ap c0:=(Chg.trans (Chg.trans a6 ad) av).mono λb hb _=>by
    simp only[Ab5,Abf,Aad] at hb;rcases hb with hb | rfl
    ·exact Abj _ hb
    ·exact Abo ..
   have nT1:T∉Ac (Value.slice wp (((List.range r).map (Fk p F c)).length+1) wc):=λh=>by
    rcases au T h with h | h
    ·have:=(bg T h).2;omega
    ·omega
   have nT2:T∉Ac (Value.slice up (AE p++(List.range r).flatMap (Bc p F c)++(List.range c).flatMap (Cn p F r)).length uc):=λh=>by
    rcases a2 T h with h | h
    ·have:=(cc T h).2;omega
    ·omega
   have aq:=ag.chg bn (by
    simp only[AaT,not_or];exact⟨by omega,λh=>by have:=(bg T h).2;omega⟩)
   refine Sa ?_;refine QW.again (r+1,.slice wp (((List.range r).map (Fk p F c)).length+1) wc,.slice up (AE p++(List.range r).flatMap (Bc p F c)++(List.range c).flatMap (Cn p F r)).length uc) ⟨by show r+1≤R;omega,?_,am,?_,?_,?_⟩ Hx (by show R - (r+1)<R - r;omega)
   ·refine(Chg.trans (Chg.trans a3 bm) bn).mono λb hb hl=>?_;simp only[Abf,AaT] at hb ⊢;rcases hb with ((hb | hb) | hb) | hb | hb
    ·exact .inl hb
    ·exact .inr hb
    ·rcases aj b hb with h | h
     ·exact .inr h
     ·omega
    ·exact .inl hb
    ·have:=(bg b hb).1;omega
   ·show Qp _ _ _ _ ((List.range (r+1)).map (Fk p F c));rw[AbJ,AbG];have hu:∀j,j∈Z::H::(V++(Ac (Value.slice wp (((List.range r).map (Fk p F c)).length+1) wc)++Ac (Value.slice up (AE p++(List.range r).flatMap (Bc p F c)++(List.range c).flatMap (Cn p F r)).length uc)))→j∈Z::H::(V++(Ac (Value.slice rp ((List.range r).map (Fk p F c)).length rc)++Ac (Value.slice up (AE p++(List.range r).flatMap (Bc p F c)++(List.range c).flatMap (Cn p F r)).length uc)))∨ap.heap.size≤j:=λj hj=>by
     simp only[AaT,Abf] at hj ⊢;rcases hj with hj | hj | hj | hj | hj
     ·exact .inl (.inl hj)
     ·exact .inl (.inr (.inl hj))
     ·exact .inl (.inr (.inr (.inl hj)))
     ·rcases au j hj with h | h
      ·exact .inl (.inr (.inr (.inr (.inl h))))
      ·exact .inr AdE
     ·exact .inl (.inr (.inr (.inr (.inr hj))))
    refine Aq.snoc g1 g2 (bf.chg av λb hb hm=>?_) rfl (λi y ds hi hd=>(g4 i y ds hi hd).step (bn.mono λb hb _=>?_) hu) (λw' hw=>⟨_,rfl,?_⟩)
    ·simp only[Aad] at hm;subst hm;rcases au _ hb with h | h
     ·have:=(bg _ h).1;omega
     ·omega
    ·simp only[AaT,Abf] at hb ⊢;rcases hb with hb | hb
     ·exact .inr (.inl hb)
     ·exact .inr (.inr (.inr (.inl hb)))
    ·have:=DQ (aq.chg hw (by
      simp only[AaT,Abf,not_or];exact⟨by omega,by omega,λh=>by have:=hV T h;omega,nT1,nT2⟩)) AdE cb
     rwa [d9] at this
   ·show EZ _ _ _ (AE p++(List.range (r+1)).flatMap (Bc p F c));rw[AbJ,AbF,Acd,←List.append_assoc];exact Aq.chg a9 bn (λb hb hm=>by
     rcases AaT.1 hm with rfl | hm
     ·have:=(Aq.lt a9 hb).1;omega
     ·rcases a2 b hb with h | h
      ·exact apart b hm h
      ·have:=(bg b hm).2;omega) λ_ _ _ _ h=>h
   ·intro j hj;rcases a2 j hj with h | h
    ·exact aj j h
    ·exact .inr AdE
 ·have c1:r=R:=by simp at c1;omega
  subst c1;refine Sw ?_;refine AD λap a0 b4=>?_;refine Sw ?_;refine QW.body_ct rfl rfl b4 rfl rfl rfl rfl ⟨_,_,by rw[hC];rfl,?_,?_,?_⟩
  ·exact Aq.low (SafO.step a8 a0 (λj hj=>by simp only[Aad] at hj;subst hj;exact Abo ..) (λb hb hm=>by simp only[Aad] at hm;subst hm;have:=nZ0 hb;omega) (λj hj=>.inl (Abj _ (Abj _ (AbR _ hj))))) AdE
  ·exact Aq.low (Aq.chg a4 a0 (λb hb hm=>by simp only[Aad] at hm;subst hm;have:=nZ1 hb;omega) λ_ _ _ _ h=>h) AdE
  ·refine(bw.step a3 λb hb=>?_).step a0 AdG;rcases AaT.1 hb with rfl | hb
   ·omega
   ·have:=ci b hb;omega
end
end Go.Proofs.YtcjjcnecopnpcaaGreatDoor
