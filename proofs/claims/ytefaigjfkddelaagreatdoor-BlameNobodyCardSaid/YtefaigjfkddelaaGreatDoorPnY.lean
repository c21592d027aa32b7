/-
  Joined by program out of the texts Law26N.
-/
import Derived.Test.YtefaigjfkddelaaGreatDoorPnS
import Derived.Test.YtefaigjfkddelaaGreatDoorPnQ
namespace Go.Proofs.YtefaigjfkddelaaGreatDoor
open Tryz
open Go Go.E
set_option maxRecDepth 8000 in
set_option maxHeartbeats 8000000 in
theorem M6(hPast:QS)(ds ks ts:List Int)(dv kv tv:Value)(n m:Nat)(w:World)(g:Dg w)(hd:J8 w dv ds)(hk:J8 w kv ks)(ht:J8 w tv ts)(hn:n<256)(hm:m<256):AF prog 5 [dv,kv,.int .u8 (n:Int),tv,.int .u8 (m:Int)] w (λr w'=>r=.bool true∧Ae w w'):=by
 obtain⟨pk,ck,rfl⟩:=hk.1.slice;obtain⟨pt,ct,rfl⟩:=ht.1.slice;have c2:=hk.1.1;have c3:=ht.1.1;refine AQ func5 ntmps5 ?_;refine Sw ?_;refine B6 (λh1=>?_) λh1=>?_
 ·refine Sw ?_;refine Ax rfl rfl (Gz _ g) ?_;rintro v w1 ⟨rfl,hx⟩;refine Sw ?_;exact QW.body1 rfl rfl ⟨rfl,hx⟩
 have h1:ks.length≤40:=by simp at h1;omega
 refine Sw ?_;refine Av (λh2=>?_) λh2=>?_
 ·refine Sw ?_;refine Ax rfl rfl (Gz _ g) ?_;rintro v w1 ⟨rfl,hx⟩;refine Sw ?_;exact QW.body1 rfl rfl ⟨rfl,hx⟩
 have h2:ts.length≤60:=by simp at h2;omega
 refine Sw ?_;refine Ax rfl rfl (hPast ds ks ts _ _ _ n w g hd hk ht hn h1 h2) ?_;rintro v w1 ⟨l,hP,b8,bh,bi,b4⟩;have b9:=hP.list Aez;have b5:=hP.len;obtain⟨p,c,rfl⟩:=hP.slice;refine Sw ?_;refine Av (λh3=>?_) λh3=>?_
 ·refine Sw ?_;refine Ax rfl rfl (Gz _ (g.ext b4)) ?_;rintro v w2 ⟨rfl,hx⟩;refine Sw ?_;exact QW.body1 rfl rfl ⟨rfl,b4.trans hx⟩
 have h3:0<l.length:=by
  cases e:l with
  | nil=>rw[e] at h3;simp at h3
  | cons a b=>simp
 obtain⟨q,hq,bj⟩:∃q:Nat,(m:Int) % (l.length:Int)=q∧q=m % l.length:=⟨m % l.length,by simp,rfl⟩;have bk:q<l.length:=by rw[bj];exact Aeq _ h3
 obtain⟨C,hC⟩:∃s,l[q]?=some s:=⟨_,Aak bk⟩;obtain⟨a,pq,pn,bp,bc,rfl,bl,ao,bm,am,ba⟩:=Dk.at b9 hC;refine Sw ?_;rw[hq];refine Sw ?_;refine BX λZ w2 c4 bn hZ=>?_;refine Sw ?_;refine AR λw3 bo hZ=>?_;replace hZ:Blk w3 Z (Bl C (.slice pq C.parents.length pn) (.slice bp C.book.length bc)) 31:=hZ;have a0:Ae w1 w3:=bn.step bo Ae0;have bq:=a0.size;have c5:=hZ.lt;have hc3Z:∀j u,(Bl C (.slice pq C.parents.length pn) (.slice bp C.book.length bc))[j]?=some u→w3.cell? ((⟨Z,0,none⟩:Addr).add j)=some u:=λj u hj=>by
  rw[An];refine hZ.cell ?_;rw[AbW];exact hj
 apply LW.nil;apply QW.then_n;obtain⟨X,hX⟩:∃x:A9,x=⟨[110,101,120,116],[C.id],C.book,[]⟩:=⟨_,rfl⟩;obtain⟨css,g1,g2,g3,g4⟩:=id hP;refine CW.seq_cut (ι:=Value) (λv w'=>Ae w3 w'∧Dk w' v (l++[X])∧∀p n k,v=.slice p n k→n≤k) (λv=>[(11,.slice (some a) l.length c),(12,.pointer (some ⟨Z,0,none⟩)),(13,v)]) ?_ ?_
 ·have a9:css.flatten.length=l.length*4:=g3.1;have aa:∀j u,css.flatten[j]?=some u→w3.cell? (a.add j)=some u:=by
   obtain⟨-,⟨e,-⟩ | ⟨gg,cap,sp,e,b3,-,-,-⟩⟩:=g3
   ·cases(Acd e).1
   ·intro j u hj;obtain rfl:=Aa5 (Acd e).1;rw[An];refine(b3.ext a0).cell ?_;rw[AbW,Abg (Aav.1 hj).1];exact hj
  have ab:∀u∈css.flatten,u.oneCell'=true:=λu hu=>by
   obtain⟨cs,br,hu⟩:=List.mem_flatten.1 hu;obtain⟨i,hi⟩:=Acy br;obtain⟨x,bs⟩:∃x,l[i]?=some x:=⟨_,Aak (by have:=(Aav.1 hi).1;omega)⟩;obtain⟨pv,bv,rfl,k1,-,k2,-⟩:=(g4 i x cs bs hi).now;obtain⟨_,_,rfl⟩:=C8.slice k1;obtain⟨_,_,rfl⟩:=Ao.slice k2;simp only[Bl,Acf,Acn,or_false] at hu;rcases hu with rfl | rfl | rfl | rfl<;>rfl
  refine Sa ?_;refine CW.drawG (Ae w3) 10 (λw' h=>h) Ae1 λwa c6=>?_;refine BD ?_;refine GW.take 7 rfl rfl rfl rfl (λw' bt=>Y.load_cells rfl (Hf (i:=2) (hZ.ext bt) rfl) rfl rfl rfl) rfl rfl Ae1 Ae1 Ae1 (λ_ _ _ h=>h) ?_;refine BD ?_;refine GW.two 0 5 Ae1 rfl rfl rfl rfl rfl rfl (λhS=>?_) (λhS=>?_)
  ·(apply LW.buildSlice0;exact rfl;exact rfl;exact rfl;exact rfl;intro A0 w5 ap ak hA)
   have bu:=ak.size;have al:w3.heap.size≤A0:=by rw[ap];exact hS.size
   have bb:=hA.lt;have a1:=hS.trans ak;clear hS;apply LW.nil;refine QW.headed a1 ?_;refine BD ?_;refine GW.two 2 5 Ae1 rfl rfl rfl rfl rfl rfl (λhS=>?_) (λhS=>?_)
   ·refine LW.append_any (lo:=w3.heap.size) (xs:=[]) (k:=0) (news:=css.flatten) rfl rfl rfl rfl rfl rfl (⟨rfl,.inr ⟨A0,0,[],rfl,hA,by simp,by simp,al⟩⟩) hS.size a9 (.inr ⟨_,rfl,λj u hj=>Aw hS (aa j u hj)⟩) ab Afs rfl ?_;intro v2 w6 bd hO aj;have b6:=bd.size;simp only[Acb,AbW] at hO;have a1:=hS.step bd AeC;clear hS;apply LW.nil;refine QW.headed a1 ?_;refine BD ?_;refine DR 5 λhS=>?_;refine Cx λB0 w7 aq a2 hC=>?_;have ar:=a2.size;replace hC:Blk w7 B0 [Am C.id] 9:=hC;have be:w3.heap.size≤B0:=by rw[aq];exact hS.size
    have b3:=hC.lt;have ac:B0∉Ac v2:=λh=>by have:=(hO.lt h).2;omega
    replace hO:=hO.ext a2;have a1:=hS.trans a2;clear hS;apply LW.nil;refine QW.headed a1 ?_;refine BD ?_;refine DR 9 λhS=>?_;refine Cx λD w8 ad a6 hN=>?_;have au:=a6.size;replace hN:Blk w8 D (Bl X (.slice (some ⟨B0,0,none⟩) 1 1) (.slice bp C.book.length bc)) 31:=by rw[hX];exact hN
    have av:w3.heap.size≤D:=by rw[ad];exact hS.size
    have aw:=hN.lt;replace hO:=hO.ext a6;replace hC:=hC.ext a6;have a1:=hS.trans a6;clear hS;apply LW.nil;refine QW.headed a1 ?_;refine BD ?_;refine GW.tail rfl Ae1 (λhS=>?_);have a3:=a0.size;have ae:∀w',Chg ([]++Ac v2) w8 w'→Ae w1 w':=λw' x=>(a0.trans hS).step x (λb hb=>by have:=(hO.lt AfD).1;omega);have af:Dx ([]++Ac v2) w8 λw'=>C1 w' (Bl X (.slice (some ⟨B0,0,none⟩) 1 1) (.slice bp C.book.length bc)) X:=λw' x=>by
     have ag:=hC.chg x Afw;refine⟨_,_,rfl,?_,by rw[hX];show(4:Nat)≤_;omega,by rw[hX];exact Ak.ext ao (ae w' x),by rw[hX];exact am⟩;rw[hX];exact⟨by show(1:Nat)≤_;omega,.inr ⟨_,1,rfl,λi x hi=>by
      match i,hi with
      | 0,hi=>
       obtain rfl:=Aa5 hi;exact⟨_,rfl,⟨rfl,by omega⟩,CK ag⟩⟩⟩
    have g4':∀(i:Nat) x ds,l[i]?=some x→css[i]?=some ds→Dx ([]++Ac v2) w8 λw'=>C1 w' ds x:=λi x ds hi hd=>(g4 i x ds hi hd).step ((a0.trans hS).chg) (λj hj=>.inr AeO);refine LW.append (lo:=w3.heap.size) (k:=l.length) rfl rfl rfl rfl rfl rfl hO hS.size hN rfl rfl rfl Afl rfl ?_;intro v9 w9 a4 ah ai;have a5:=C4.snoc (U:=[]) (c:=X) g1 g2 g4' (Chg.refl _ _) rfl af a4 ai ah;refine Sa ?_;exact QW.head v9 ⟨hS.step a4 (λb hb=>(hO.lt hb).1),a5.list Ae0,a5.len⟩ Bh
   ·refine Cx λB0 w6 aq a7 hC=>?_;have b6:=a7.size;replace hC:Blk w6 B0 [Am C.id] 9:=hC;have be:w3.heap.size≤B0:=by rw[aq];exact hS.size
    have b3:=hC.lt;replace hA:=hA.ext a7;have a1:=hS.trans a7;clear hS;apply LW.nil;refine QW.headed a1 ?_;refine BD ?_;refine GW.two 2 9 Ae1 rfl rfl rfl rfl rfl rfl (λhS=>?_) (λhS=>?_)
    ·refine LW.append_any (lo:=w3.heap.size) (xs:=[]) (k:=0) (news:=css.flatten) rfl rfl rfl rfl rfl rfl (⟨rfl,.inr ⟨A0,0,[],rfl,hA,by simp,by simp,al⟩⟩) hS.size a9 (.inr ⟨_,rfl,λj u hj=>Aw hS (aa j u hj)⟩) ab Afs rfl ?_;intro v2 w7 an hO aj;have ar:=an.size;simp only[Acb,AbW] at hO;have ac:B0∉Ac v2:=λh=>by
      rcases aj B0 h with h | h
      ·simp[Ac] at h;omega
      ·omega
     replace hC:=hC.chg an AeC;have a1:=hS.step an AeC;clear hS;apply LW.nil;refine QW.headed a1 ?_;refine BD ?_;refine DR 9 λhS=>?_;refine Cx λD w8 ad a6 hN=>?_;have au:=a6.size;replace hN:Blk w8 D (Bl X (.slice (some ⟨B0,0,none⟩) 1 1) (.slice bp C.book.length bc)) 31:=by rw[hX];exact hN
     have av:w3.heap.size≤D:=by rw[ad];exact hS.size
     have aw:=hN.lt;replace hC:=hC.ext a6;replace hO:=hO.ext a6;have a1:=hS.trans a6;clear hS;apply LW.nil;refine QW.headed a1 ?_;refine BD ?_;refine GW.tail rfl Ae1 (λhS=>?_);have a3:=a0.size;have ae:∀w',Chg ([]++Ac v2) w8 w'→Ae w1 w':=λw' x=>(a0.trans hS).step x (λb hb=>by have:=(hO.lt AfD).1;omega);have af:Dx ([]++Ac v2) w8 λw'=>C1 w' (Bl X (.slice (some ⟨B0,0,none⟩) 1 1) (.slice bp C.book.length bc)) X:=λw' x=>by
      have ag:=hC.chg x Afw;refine⟨_,_,rfl,?_,by rw[hX];show(4:Nat)≤_;omega,by rw[hX];exact Ak.ext ao (ae w' x),by rw[hX];exact am⟩;rw[hX];exact⟨by show(1:Nat)≤_;omega,.inr ⟨_,1,rfl,λi x hi=>by
       match i,hi with
       | 0,hi=>
        obtain rfl:=Aa5 hi;exact⟨_,rfl,⟨rfl,by omega⟩,CK ag⟩⟩⟩
     have g4':∀(i:Nat) x ds,l[i]?=some x→css[i]?=some ds→Dx ([]++Ac v2) w8 λw'=>C1 w' ds x:=λi x ds hi hd=>(g4 i x ds hi hd).step ((a0.trans hS).chg) (λj hj=>.inr AeO);refine LW.append (lo:=w3.heap.size) (k:=l.length) rfl rfl rfl rfl rfl rfl hO hS.size hN rfl rfl rfl Afl rfl ?_;intro v9 w9 a4 ah ai;have a5:=C4.snoc (U:=[]) (c:=X) g1 g2 g4' (Chg.refl _ _) rfl af a4 ai ah;refine Sa ?_;exact QW.head v9 ⟨hS.step a4 (λb hb=>(hO.lt hb).1),a5.list Ae0,a5.len⟩ Bh
    ·refine Cx λD w7 ad a2 hN=>?_;have ar:=a2.size;replace hN:Blk w7 D (Bl X (.slice (some ⟨B0,0,none⟩) 1 1) (.slice bp C.book.length bc)) 31:=by rw[hX];exact hN
     have av:w3.heap.size≤D:=by rw[ad];exact hS.size
     have aw:=hN.lt;replace hA:=hA.ext a2;replace hC:=hC.ext a2;have a1:=hS.trans a2;clear hS;apply LW.nil;refine QW.headed a1 ?_;refine BD ?_;refine DR 2 λhS=>?_;refine LW.append_any (lo:=w3.heap.size) (xs:=[]) (k:=0) (news:=css.flatten) rfl rfl rfl rfl rfl rfl (⟨rfl,.inr ⟨A0,0,[],rfl,hA,by simp,by simp,al⟩⟩) hS.size a9 (.inr ⟨_,rfl,λj u hj=>Aw hS (aa j u hj)⟩) ab Afs rfl ?_;intro v2 w8 a8 hO aj;have au:=a8.size;simp only[Acb,AbW] at hO;have ac:B0∉Ac v2:=λh=>by
      rcases aj B0 h with h | h
      ·simp[Ac] at h;omega
      ·omega
     replace hC:=hC.chg a8 AeC;replace hN:=hN.chg a8 AeC;have a1:=hS.step a8 AeC;clear hS;apply LW.nil;refine QW.headed a1 ?_;refine BD ?_;refine GW.tail rfl Ae1 (λhS=>?_);have a3:=a0.size;have ae:∀w',Chg ([]++Ac v2) w8 w'→Ae w1 w':=λw' x=>(a0.trans hS).step x (λb hb=>by have:=(hO.lt AfD).1;omega);have af:Dx ([]++Ac v2) w8 λw'=>C1 w' (Bl X (.slice (some ⟨B0,0,none⟩) 1 1) (.slice bp C.book.length bc)) X:=λw' x=>by
      have ag:=hC.chg x Afw;refine⟨_,_,rfl,?_,by rw[hX];show(4:Nat)≤_;omega,by rw[hX];exact Ak.ext ao (ae w' x),by rw[hX];exact am⟩;rw[hX];exact⟨by show(1:Nat)≤_;omega,.inr ⟨_,1,rfl,λi x hi=>by
       match i,hi with
       | 0,hi=>
        obtain rfl:=Aa5 hi;exact⟨_,rfl,⟨rfl,by omega⟩,CK ag⟩⟩⟩
     have g4':∀(i:Nat) x ds,l[i]?=some x→css[i]?=some ds→Dx ([]++Ac v2) w8 λw'=>C1 w' ds x:=λi x ds hi hd=>(g4 i x ds hi hd).step ((a0.trans hS).chg) (λj hj=>.inr AeO);refine LW.append (lo:=w3.heap.size) (k:=l.length) rfl rfl rfl rfl rfl rfl hO hS.size hN rfl rfl rfl Afl rfl ?_;intro v9 w9 a4 ah ai;have a5:=C4.snoc (U:=[]) (c:=X) g1 g2 g4' (Chg.refl _ _) rfl af a4 ai ah;refine Sa ?_;exact QW.head v9 ⟨hS.step a4 (λb hb=>(hO.lt hb).1),a5.list Ae0,a5.len⟩ Bh
  ·refine Cx λB0 w5 aq ak hC=>?_;have bu:=ak.size;replace hC:Blk w5 B0 [Am C.id] 9:=hC;have be:w3.heap.size≤B0:=by rw[aq];exact hS.size
   have b3:=hC.lt;have a1:=hS.trans ak;clear hS;apply LW.nil;refine QW.headed a1 ?_;refine BD ?_;refine GW.two 0 9 Ae1 rfl rfl rfl rfl rfl rfl (λhS=>?_) (λhS=>?_)
   ·(apply LW.buildSlice0;exact rfl;exact rfl;exact rfl;exact rfl;intro A0 w6 ap a7 hA)
    have b6:=a7.size;have al:w3.heap.size≤A0:=by rw[ap];exact hS.size
    have bb:=hA.lt;replace hC:=hC.ext a7;have a1:=hS.trans a7;clear hS;apply LW.nil;refine QW.headed a1 ?_;refine BD ?_;refine GW.two 2 9 Ae1 rfl rfl rfl rfl rfl rfl (λhS=>?_) (λhS=>?_)
    ·refine LW.append_any (lo:=w3.heap.size) (xs:=[]) (k:=0) (news:=css.flatten) rfl rfl rfl rfl rfl rfl (⟨rfl,.inr ⟨A0,0,[],rfl,hA,by simp,by simp,al⟩⟩) hS.size a9 (.inr ⟨_,rfl,λj u hj=>Aw hS (aa j u hj)⟩) ab Afs rfl ?_;intro v2 w7 an hO aj;have ar:=an.size;simp only[Acb,AbW] at hO;have ac:B0∉Ac v2:=λh=>by
      rcases aj B0 h with h | h
      ·simp[Ac] at h;omega
      ·omega
     replace hC:=hC.chg an AeC;have a1:=hS.step an AeC;clear hS;apply LW.nil;refine QW.headed a1 ?_;refine BD ?_;refine DR 9 λhS=>?_;refine Cx λD w8 ad a6 hN=>?_;have au:=a6.size;replace hN:Blk w8 D (Bl X (.slice (some ⟨B0,0,none⟩) 1 1) (.slice bp C.book.length bc)) 31:=by rw[hX];exact hN
     have av:w3.heap.size≤D:=by rw[ad];exact hS.size
     have aw:=hN.lt;replace hC:=hC.ext a6;replace hO:=hO.ext a6;have a1:=hS.trans a6;clear hS;apply LW.nil;refine QW.headed a1 ?_;refine BD ?_;refine GW.tail rfl Ae1 (λhS=>?_);have a3:=a0.size;have ae:∀w',Chg ([]++Ac v2) w8 w'→Ae w1 w':=λw' x=>(a0.trans hS).step x (λb hb=>by have:=(hO.lt AfD).1;omega);have af:Dx ([]++Ac v2) w8 λw'=>C1 w' (Bl X (.slice (some ⟨B0,0,none⟩) 1 1) (.slice bp C.book.length bc)) X:=λw' x=>by
      have ag:=hC.chg x Afw;refine⟨_,_,rfl,?_,by rw[hX];show(4:Nat)≤_;omega,by rw[hX];exact Ak.ext ao (ae w' x),by rw[hX];exact am⟩;rw[hX];exact⟨by show(1:Nat)≤_;omega,.inr ⟨_,1,rfl,λi x hi=>by
       match i,hi with
       | 0,hi=>
        obtain rfl:=Aa5 hi;exact⟨_,rfl,⟨rfl,by omega⟩,CK ag⟩⟩⟩
     have g4':∀(i:Nat) x ds,l[i]?=some x→css[i]?=some ds→Dx ([]++Ac v2) w8 λw'=>C1 w' ds x:=λi x ds hi hd=>(g4 i x ds hi hd).step ((a0.trans hS).chg) (λj hj=>.inr AeO);refine LW.append (lo:=w3.heap.size) (k:=l.length) rfl rfl rfl rfl rfl rfl hO hS.size hN rfl rfl rfl Afl rfl ?_;intro v9 w9 a4 ah ai;have a5:=C4.snoc (U:=[]) (c:=X) g1 g2 g4' (Chg.refl _ _) rfl af a4 ai ah;refine Sa ?_;exact QW.head v9 ⟨hS.step a4 (λb hb=>(hO.lt hb).1),a5.list Ae0,a5.len⟩ Bh
    ·refine Cx λD w7 ad a2 hN=>?_;have ar:=a2.size;replace hN:Blk w7 D (Bl X (.slice (some ⟨B0,0,none⟩) 1 1) (.slice bp C.book.length bc)) 31:=by rw[hX];exact hN
     have av:w3.heap.size≤D:=by rw[ad];exact hS.size
     have aw:=hN.lt;replace hC:=hC.ext a2;replace hA:=hA.ext a2;have a1:=hS.trans a2;clear hS;apply LW.nil;refine QW.headed a1 ?_;refine BD ?_;refine DR 2 λhS=>?_;refine LW.append_any (lo:=w3.heap.size) (xs:=[]) (k:=0) (news:=css.flatten) rfl rfl rfl rfl rfl rfl (⟨rfl,.inr ⟨A0,0,[],rfl,hA,by simp,by simp,al⟩⟩) hS.size a9 (.inr ⟨_,rfl,λj u hj=>Aw hS (aa j u hj)⟩) ab Afs rfl ?_;intro v2 w8 a8 hO aj;have au:=a8.size;simp only[Acb,AbW] at hO;have ac:B0∉Ac v2:=λh=>by
      rcases aj B0 h with h | h
      ·simp[Ac] at h;omega
      ·omega
     replace hC:=hC.chg a8 AeC;replace hN:=hN.chg a8 AeC;have a1:=hS.step a8 AeC;clear hS;apply LW.nil;refine QW.headed a1 ?_;refine BD ?_;refine GW.tail rfl Ae1 (λhS=>?_);have a3:=a0.size;have ae:∀w',Chg ([]++Ac v2) w8 w'→Ae w1 w':=λw' x=>(a0.trans hS).step x (λb hb=>by have:=(hO.lt AfD).1;omega);have af:Dx ([]++Ac v2) w8 λw'=>C1 w' (Bl X (.slice (some ⟨B0,0,none⟩) 1 1) (.slice bp C.book.length bc)) X:=λw' x=>by
      have ag:=hC.chg x Afw;refine⟨_,_,rfl,?_,by rw[hX];show(4:Nat)≤_;omega,by rw[hX];exact Ak.ext ao (ae w' x),by rw[hX];exact am⟩;rw[hX];exact⟨by show(1:Nat)≤_;omega,.inr ⟨_,1,rfl,λi x hi=>by
       match i,hi with
       | 0,hi=>
        obtain rfl:=Aa5 hi;exact⟨_,rfl,⟨rfl,by omega⟩,CK ag⟩⟩⟩
     have g4':∀(i:Nat) x ds,l[i]?=some x→css[i]?=some ds→Dx ([]++Ac v2) w8 λw'=>C1 w' ds x:=λi x ds hi hd=>(g4 i x ds hi hd).step ((a0.trans hS).chg) (λj hj=>.inr AeO);refine LW.append (lo:=w3.heap.size) (k:=l.length) rfl rfl rfl rfl rfl rfl hO hS.size hN rfl rfl rfl Afl rfl ?_;intro v9 w9 a4 ah ai;have a5:=C4.snoc (U:=[]) (c:=X) g1 g2 g4' (Chg.refl _ _) rfl af a4 ai ah;refine Sa ?_;exact QW.head v9 ⟨hS.step a4 (λb hb=>(hO.lt hb).1),a5.list Ae0,a5.len⟩ Bh
   ·refine Cx λD w6 ad a7 hN=>?_;have b6:=a7.size;replace hN:Blk w6 D (Bl X (.slice (some ⟨B0,0,none⟩) 1 1) (.slice bp C.book.length bc)) 31:=by rw[hX];exact hN
    have av:w3.heap.size≤D:=by rw[ad];exact hS.size
    have aw:=hN.lt;replace hC:=hC.ext a7;have a1:=hS.trans a7;clear hS;apply LW.nil;refine QW.headed a1 ?_;refine BD ?_;refine DR 0 λhS=>?_
    (apply LW.buildSlice0;exact rfl;exact rfl;exact rfl;exact rfl;intro A0 w7 ap a2 hA)
    have ar:=a2.size;have al:w3.heap.size≤A0:=by rw[ap];exact hS.size
    have bb:=hA.lt;replace hC:=hC.ext a2;replace hN:=hN.ext a2;have a1:=hS.trans a2;clear hS;apply LW.nil;refine QW.headed a1 ?_;refine BD ?_;refine DR 2 λhS=>?_;refine LW.append_any (lo:=w3.heap.size) (xs:=[]) (k:=0) (news:=css.flatten) rfl rfl rfl rfl rfl rfl (⟨rfl,.inr ⟨A0,0,[],rfl,hA,by simp,by simp,al⟩⟩) hS.size a9 (.inr ⟨_,rfl,λj u hj=>Aw hS (aa j u hj)⟩) ab Afs rfl ?_;intro v2 w8 a8 hO aj;have au:=a8.size;simp only[Acb,AbW] at hO;have ac:B0∉Ac v2:=λh=>by
     rcases aj B0 h with h | h
     ·simp[Ac] at h;omega
     ·omega
    replace hC:=hC.chg a8 AeC;replace hN:=hN.chg a8 AeC;have a1:=hS.step a8 AeC;clear hS;apply LW.nil;refine QW.headed a1 ?_;refine BD ?_;refine GW.tail rfl Ae1 (λhS=>?_);have a3:=a0.size;have ae:∀w',Chg ([]++Ac v2) w8 w'→Ae w1 w':=λw' x=>(a0.trans hS).step x (λb hb=>by have:=(hO.lt AfD).1;omega);have af:Dx ([]++Ac v2) w8 λw'=>C1 w' (Bl X (.slice (some ⟨B0,0,none⟩) 1 1) (.slice bp C.book.length bc)) X:=λw' x=>by
     have ag:=hC.chg x Afw;refine⟨_,_,rfl,?_,by rw[hX];show(4:Nat)≤_;omega,by rw[hX];exact Ak.ext ao (ae w' x),by rw[hX];exact am⟩;rw[hX];exact⟨by show(1:Nat)≤_;omega,.inr ⟨_,1,rfl,λi x hi=>by
      match i,hi with
      | 0,hi=>
       obtain rfl:=Aa5 hi;exact⟨_,rfl,⟨rfl,by omega⟩,CK ag⟩⟩⟩
    have g4':∀(i:Nat) x ds,l[i]?=some x→css[i]?=some ds→Dx ([]++Ac v2) w8 λw'=>C1 w' ds x:=λi x ds hi hd=>(g4 i x ds hi hd).step ((a0.trans hS).chg) (λj hj=>.inr AeO);refine LW.append (lo:=w3.heap.size) (k:=l.length) rfl rfl rfl rfl rfl rfl hO hS.size hN rfl rfl rfl Afl rfl ?_;intro v9 w9 a4 ah ai;have a5:=C4.snoc (U:=[]) (c:=X) g1 g2 g4' (Chg.refl _ _) rfl af a4 ai ah;refine Sa ?_;exact QW.head v9 ⟨hS.step a4 (λb hb=>(hO.lt hb).1),a5.list Ae0,a5.len⟩ Bh
 rintro v w4 ⟨ax,bw,ay⟩;have az:=a0.trans ax;have b0:=b4.trans az;have bx:DM l X.id=none:=by rw[hX];exact Zy bi (by show(4:Nat)≠3;omega)
 have bz:X.id=[110,101,120,116]:=by rw[hX]
 obtain⟨c0,bf⟩:=TR b8 hC am bx (by rw[hX]) (by rw[hX]);have hc4Z:=Aw ax (hc3Z 0 _ rfl);rw[bz] at bf;refine Sw ?_;refine Ax rfl rfl (JC l _ C.id w4 (g.ext b0) (b9.ext az) b5 b8 Aez) ?_;rintro v5 w5 ⟨rv,f,c1,ak⟩;have b1:=b0.trans ak;refine Sw ?_;refine Ax rfl rfl (JC (l++[X]) _ _ w5 (g.ext b1) (bw.ext ak) ay c0 Ae0) ?_;rintro v6 w6 ⟨rv',f',bg,a7⟩;have b7:=b1.trans a7;rw[bf] at bg;refine Sw ?_;refine Ax rfl rfl (PL (Gc l C.id) (Gc l C.id) _ _ w6 (c1.ext a7).list bg.list) ?_;rintro u w7 ⟨rfl,a2⟩;have b2:=b7.trans a2;rw[decide_eq_true (rfl:Gc l C.id=Gc l C.id)];refine Sw ?_;refine Ax rfl rfl (Gz _ (g.ext b2)) ?_;rintro v8 w8 ⟨rfl,a6⟩;refine Sw ?_;exact QW.body1 rfl rfl ⟨rfl,b2.trans a6⟩
end Go.Proofs.YtefaigjfkddelaaGreatDoor
