/-
  Joined by program out of the texts Law20F.
-/
import Derived.Test.YtcjjcnecopnpcaaGreatDoorMzW
namespace Go.Proofs.YtcjjcnecopnpcaaGreatDoor
open Tryz
open Go Go.E
theorem XJ(F:Nat→List UInt8)(k i:Nat):(Kd k i).map F=((A2 k).map F).take i++F 60::((A2 k).map F).drop i:=by rw[Kd,AbT,Acb,Aea,Aeb]
theorem Vl(j:Nat):Ea true 0 j=[61,83,85,77,40,65,49,58,65]++Lib.itoa ((j:Int)+1)++[41]:=by
 have e:Lib.itoa ((0+1:Nat):Int)=[49]:=by decide +kernel
 rw[Ea,if_pos rfl,e];rfl
theorem O0(a j:Nat):Ea false a j=[61,65]++Lib.itoa ((j:Int)+1):=rfl
theorem O1(a b:Nat):Ea true a b=[61,83,85,77,40,65]++Lib.itoa ((a:Int)+1)++[58,65]++Lib.itoa ((b:Int)+1)++[41]:=rfl
theorem Oz{sum:Bool}{a b:Nat}(ha:a≤1000)(hb:b≤1000):(Ea sum a b).length≤200:=by
 have h1:=Lib.itoa_length_le ((a+1:Nat):Int) AdV AdV;have h2:=Lib.itoa_length_le ((b+1:Nat):Int) AdV AdV;unfold Ea
 split<;>simp only[B6,AaF,Abz]<;>omega
def S7(W:List (List UInt8))(t:List UInt8)(r:Nat):Nat:=(List.range r).countP λq=>decide (W.getD q []=t)
theorem UY(W:List (List UInt8))(t:List UInt8)(r:Nat):S7 W t (r+1)=S7 W t r+if W.getD r []=t then 1 else 0:=by
 unfold S7;rw[Ace,List.countP_append]
 congr 1
 by_cases h:W.getD r []=t
 ·simp
 ·simp
theorem YV(W:List (List UInt8))(t:List UInt8)(r:Nat):S7 W t r≤r:=by
 have:=List.countP_le_length (p:=λq=>decide (W.getD q []=t)) (l:=List.range r);rw[AcR] at this;exact this
set_option maxRecDepth 8000 in
set_option maxHeartbeats 8000000 in
theorem NN(n at' ref:Nat)(sum:Bool)(w:World)(g:CT w)(hn:n<256)(hat:at'<256)(href:ref<256):AN prog 8 [.int .u8 n,.int .u8 at',.int .u8 ref,.bool sum] w (λr w'=>r=.bool true∧Ah w w'):=by
 refine Bq func8 ntmps8 ?_;refine Sw ?_;obtain⟨k,hk⟩:∃k:Nat,2+(n:Int) % 8=(k:Int):=⟨2+n % 8,by omega⟩;have e4:k<10∧2≤k:=AdV
 obtain⟨e5,e6⟩:=e4;rw[hk];clear hk;obtain⟨i,hi⟩:∃i:Nat,(at':Int) % ((k:Int)+1)=(i:Int):=⟨((at':Int) % ((k:Int)+1)).toNat,(Acr (Adr _ AdV)).symm⟩;have e7:i<k+1:=by have:=Ada (at':Int) (show(0:Int)<(k:Int)+1 by omega);omega
 obtain⟨j,hj⟩:∃j:Nat,(ref:Int) % (k:Int)=(j:Int):=⟨((ref:Int) % (k:Int)).toNat,(Acr (Adr _ AdV)).symm⟩;have e8:j<k:=by have:=Ada (ref:Int) (show(0:Int)<(k:Int) by omega);omega
 have e9:=Lib.itoa_length_le ((j:Int)+1) AdV AdV;obtain⟨fm,bn⟩:∃fm,fm=Ea sum 0 j:=⟨_,rfl⟩;have ci:fm.length≤200:=by rw[bn];exact Oz AdV AdV
 obtain⟨F,bk⟩:∃F,F=BL fm:=⟨_,rfl⟩;have cj:∀l:List Nat,∀t∈l.map F,t.length≤1000:=λl=>by rw[bk];exact Lz ci l
 have ck:Bk w w.heap.size (Iy (.slice none 0 0) (.slice none 0 0) (.slice none 0 0)) (Iy [] [] []):=by rw[←GU,←GU];exact Bk.nil _ _
 refine CW.loop (ι:=Nat×Value) (λx w'=>x.1≤k∧Ah w w'∧Bk w' w.heap.size (Iy x.2 (.slice none 0 0) (.slice none 0 0)) (Iy ((A2 x.1).map F) [] [])) (λx=>[(1,.int .u8 at'),(2,.int .u8 ref),(3,.bool sum),(9,.int .i64 k),(10,x.2),(11,.int .i64 x.1)]) (λx=>k - x.1) (0,.slice none 0 0) ⟨Acp _,Chg.refl _ _,ck⟩ LM ?_;clear ck;rintro⟨r,v⟩ w1 ⟨hr,c3,hF⟩;dsimp only at hr hF;show CW _ _ _ _ _ [(1,.int .u8 (at':Int)),(2,.int .u8 (ref:Int)),(3,.bool sum),(9,.int .i64 (k:Int)),(10,v),(11,.int .i64 (r:Int))] _;have ez:=c3.size;refine Sw ?_;refine AB (λh1=>?_) λh1=>?_
 ·have h1:r<k:=by simp at h1;omega
  refine Sw ?_;refine Ar rfl rfl (AK (100+(r:Int)) AdV AdV _) ?_;rintro u w2 ⟨rfl,b8⟩;have f0:=b8.size;refine Sw ?_;refine CF λD w3 ai ax hD=>?_;have ea:=ax.size;refine Sw ?_;refine LW.push 0 ((hF.ext b8).ext ax) hD AdV AeJ ?_;intro u w4 cl cm;rw[W7,W7] at cm;refine Sw ?_;refine QW.again (r+1,u) ⟨by show r+1≤k;omega,(c3.trans (b8.trans ax)).step cl λb hb=>(E.Own.lt (hF.own 0) hb).1,?_⟩ LM Afb;show Bk _ _ _ (Iy ((A2 (r+1)).map F) [] []);rw[IU,CM F _ _ (show F (10+r)=Lib.itoa (100+(r:Int)) by rw[bk];exact QI _ AdV)];exact cm
 have h1:r=k:=by simp at h1;omega
 subst h1;obtain⟨L,hL⟩:∃L,L=(A2 r).map F:=⟨_,rfl⟩;have eb:L.length=r:=by rw[hL,Abr,B4]
 have ab:∀t∈L,t.length≤1000:=by rw[hL];exact cj _
 have bo:F 60=[39,105,110]:=by rw[bk];rfl
 have bq:F 70=fm:=by rw[bk];rfl
 obtain⟨wt,b9⟩:∃wt,wt=Ea sum (L0 i j) (PZ i j):=⟨_,rfl⟩;obtain⟨rm,rc⟩:=Tz (sum:=sum) (k:=r) (i:=i) (j:=j) e5 e6 e7 e8;rw[←bn,←b9,←bk,AbT,XJ,←hL,bo,show[70].map F=[fm] by rw[Acb,bq];rfl] at rm;obtain⟨W,hW⟩:∃W,W=(NG r i).map (BL wt):=⟨_,rfl⟩;have ca:W.length=r+2:=by
  rw[hW,Abr,NG]
  split
  ·rw[B6,B4];rfl
  ·rw[B6,Kd,B6,AaF,Abf,Abs,B4];simp;omega
 have cn:S7 W wt (r+2)=1:=by
  rw[←rc,S7,←b9];refine List.countP_congr λq hq=>?_;have hq:=Acg.1 hq;have e:W.getD q []=BL wt ((NG r i).getD q 0):=by
   rw[hW,AaE,AaE,AbH];rw[hW,Abr] at ca;rw[B7 AdV];rfl
  rw[e]
 rw[←hW] at rm;rw[←hL] at hF;clear hL hW bo bq cj rc;subst eb;obtain⟨p,c,rfl⟩:∃p c,v=.slice p L.length c:=E.Own.slice (hF.own 0);have af:L.length≤c:=(DW.cap (hF.own 0)).2;have hT:Bz w1 (.slice p L.length c) L:=DW.texts (hF.own 0) AeT ab;clear hF;refine Sw ?_;refine CW.drawG (Ah w1) 10 (λw' h=>h) AdX λwa br=>?_;refine Ay ?_;refine GW.tail rfl AdX (λhS=>?_);rw[hi,hj];clear hi hj;have bs:=c3.trans br;replace hT:=Ak.ext hT br;clear hS;refine Sw ?_;refine Ar rfl rfl (AK ((j:Int)+1) AdV AdV _) ?_;rintro u w2 ⟨rfl,b8⟩;have bt:=bs.trans b8;replace hT:=Ak.ext hT b8;clear br bs b8 c3;refine Sl ?_;apply LW.nil;apply QW.then_n;refine CW.seq_cut (ι:=Unit) (λ_ w'=>Ah w2 w') (λ_=>[(3,.bool sum),(9,.int .i64 L.length),(10,.slice p L.length c),(12,.int .i64 i),(13,.int .i64 j),(14,Av fm)]) ?_ ?_
 ·cases sum with
  | false=>
   refine Sw ?_
   exact QW.head () (Chg.refl _ _) (Al.cons rfl (Al.cons rfl (Al.cons rfl (Al.cons rfl (Al.cons rfl (Al.cons (by rw[bn,O0];rfl) Al.nil))))))
  | true=>
   refine Sw ?_;refine Ar rfl rfl (AK ((j:Int)+1) AdV AdV _) ?_;rintro u w3 ⟨rfl,ax⟩;refine Sw ?_;exact QW.head () ax (Al.cons rfl (Al.cons rfl (Al.cons rfl (Al.cons rfl (Al.cons rfl (Al.cons (by rw[bn,Vl];rfl) Al.nil))))))
 rintro⟨⟩ w3 ax;replace hT:=Ak.ext hT ax;have ba:=bt.trans ax;have ea:=ba.size;clear bt ax;refine Sw ?_;refine Ar rfl rfl (An L _ w3 hT AdV) ?_;rintro u w4 ⟨ov,rfl,ho,co⟩;obtain⟨op,oc,rfl⟩:=Ab.slice ho;refine Sw ?_;refine Bt λO w5 f1 cb ay=>?_;have f2:=cb.size;refine Sw ?_;refine AM λw6 cq ay=>?_;replace ay:Blk w6 O [.slice op 1 oc] 24:=ay;have bb:=cb.step cq AdY;replace ho:=Aa.ext ho bb;have bd:=co.trans bb;replace hT:=Ak.ext hT bd;have bu:=ba.trans bd;clear co cb cq bb bd ba;refine Sw ?_
 (apply LW.buildSlice0;exact rfl;exact rfl;exact rfl;exact rfl;intro A0 w7 f3 c4 hA)
 have f4:=c4.size;have cd:=Bk.one (DW.empty (lo:=w6.heap.size) hA AdV);refine Sw ?_;refine LW.pushSrc 0 cd (KR (Ak.ext hT c4)) rfl AdV (by show 0+L.length≤1000;omega) ?_;intro u w8 cr _ bl;rw[A9,A9] at bl;replace bl:Bk w8 w6.heap.size (λ_:Fin 1=>u) (λ_=>L):=bl;have be:=c4.step cr cd.lo;have f5:=be.size;clear cd hA cr c4;refine Sw ?_;refine CF λD w9 ai c5 hD=>?_;have f6:=c5.size;refine Sw ?_;refine LW.push 0 (bl.ext c5) hD AdV AeT ?_;intro u3 cs bw ar;rw[A9,A9] at ar;replace ar:Bk cs w6.heap.size (λ_:Fin 1=>u3) (λ_=>L++[fm]):=ar;have b2:=(be.trans c5).step bw bl.lo;clear bl bw hD c5 be;refine Sw ?_;refine Ar rfl rfl (An (L++[fm]) _ cs (DW.texts (ar.own 0) (by show(L++[fm]).length≤1000;simp;omega) (λt ht=>by
  rcases AaC.1 ht with h | h
  ·exact ab t h
  ·rw[B3.1 h];omega)) AdY) ?_
 rintro u4 f7 ⟨av,rfl,ha,bx⟩;obtain⟨ap,ac,rfl⟩:=Ab.slice ha;refine Sw ?_;refine Bt λA f8 ct bf bg=>?_;have ec:=bf.size;refine Sw ?_;refine AM λa8 bz bg=>?_;replace bg:Blk a8 A [.slice ap 1 ac] 24:=bg;have am:=bf.step bz AdY;replace ha:=Aa.ext ha am;have aj:=(b2.trans bx).trans am;replace hT:=Ak.ext hT aj;replace ay:=ay.ext aj;replace ho:=Aa.ext ho aj;have b3:=bu.trans aj;clear ar b2 bx am bf bz aj bu;refine Sl ?_;apply LW.nil;apply QW.then_n;refine CW.seq_cut (ι:=Nat×Option Addr×Nat) (λx w'=>Ah a8 w'∧Blk w' x.1 [.slice x.2.1 1 x.2.2] 24∧AR w' (.slice x.2.1 1 x.2.2) (A4 (L.take i++[39,105,110]::L.drop i))) (λx=>[(3,.bool sum),(9,.int .i64 L.length),(12,.int .i64 i),(13,.int .i64 j),(15,.pointer (some ⟨O,0,none⟩)),(16,.pointer (some ⟨A,0,none⟩)),(17,.pointer (some ⟨x.1,0,none⟩))]) ?_ ?_
 ·clear ha ho bg ay rm cn ca;refine CW.drawG (Ah a8) 13 (λw' h=>h) AdX λwa br=>?_;have hE:=br;refine ZM 1 ?_;refine ZM 2 ?_;refine GW.take 3 rfl rfl rfl rfl (λw' _=>Y.slice_hi (j:=i) rfl rfl rfl rfl rfl AdV) rfl rfl AdX AdX AdX (λ_ _ _ h=>h) ?_;refine ZM 7 ?_;refine ZM 8 ?_;refine GW.take 9 rfl rfl rfl rfl (λw' _=>Y.slice_from (i:=i) rfl rfl rfl rfl rfl AdV) rfl rfl AdX AdX AdX (λ_ _ _ h=>h) ?_;refine GW.three 0 5 12 AdX rfl rfl rfl rfl rfl rfl rfl rfl rfl (λhS=>?_) (λhS=>?_) (λhS=>?_)
  ·(apply LW.buildSlice0;exact rfl;exact rfl;exact rfl;exact rfl;intro A1 wt az a3 b0)
   have hV:=Bk.one (DW.empty (lo:=a8.heap.size) b0 AeD);have hE:=hE.trans a3;clear hS;apply LW.nil;refine QW.headed hE ?_;refine Ay ?_;refine GW.three 4 5 12 AdX rfl rfl rfl rfl rfl rfl rfl rfl rfl (λhS=>?_) (λhS=>?_) (λhS=>?_)
   ·have a6:=hV.lo;have a7:=hE.size;refine LW.pushSrc 0 hV (C6 (a:=i) (Ak.ext hT hE) AdV) Aey a7 Ael ?_;intro u4 wt hc hu hV;rw[A9,A9] at hV;replace hV:Bk wt a8.heap.size (λ_:Fin 1=>u4) (λ_=>L.take i):=hV;have hE:=hE.step hc a6;clear hS;apply LW.nil;refine QW.headed hE ?_;refine Ay ?_;refine GW.two 5 12 AdX rfl rfl rfl rfl rfl rfl (λhS=>?_) (λhS=>?_)
    ·refine CF λD wl ai a3 hD=>?_;have ak:=hD.lt;have b4:a8.heap.size≤D:=by rw[ai];exact hE.size
     first | (have a4:=Bk.nin hV (AbW ai.symm)) | skip
     replace hV:=by first | exact hV.ext a3 | exact Ab.ext' hV a3 (λ_ _ _ _ h=>h) | exact Aa.ext hV a3
     have ed:=a3.size;have hE:=hE.trans a3;clear hS;apply LW.nil;refine QW.headed hE ?_;refine Ay ?_;refine GW.two 6 12 AdX rfl rfl rfl rfl rfl rfl (λhS=>?_) (λhS=>?_)
     ·have a6:=hV.lo;have a7:=hE.size;have ad:=hD.lt;refine LW.pushU 0 hV hD a7 Aek ?_;intro u5 wt hc hu hV;rw[A9,A9] at hV;replace hV:Bk wt a8.heap.size (λ_:Fin 1=>u5) (λ_=>L.take i++[[39,105,110]]):=hV;have hE:=hE.step hc a6;replace hD:=hD.chg hc a4;have a4:D∉Ac ((λ_:Fin 1=>u5) 0):=λhm=>(hu _ hm).elim a4 λh=>by omega
      clear hS;apply LW.nil;refine QW.headed hE ?_;refine Ay ?_;refine GW.two 10 12 AdX rfl rfl rfl rfl rfl rfl (λhS=>?_) (λhS=>?_)
      ·have a6:=hV.lo;have a7:=hE.size;refine LW.pushSrc 0 hV (Bo (a:=i) (Ak.ext hT hE) AdV af) Ae2 a7 Aeg ?_;intro u6 wt hc hu hV;rw[A9,A9] at hV;replace hV:Bk wt a8.heap.size (λ_:Fin 1=>u6) (λ_=>L.take i++[[39,105,110]]++L.drop i):=hV;have hE:=hE.step hc a6;replace hD:=hD.chg hc a4;clear hS;apply LW.nil;refine QW.headed hE ?_;refine Ay ?_;refine GW.two 11 12 AdX rfl rfl rfl rfl rfl rfl (λhS=>?_) (λhS=>?_)
       ·rw[B8] at hV;refine Ar rfl rfl (An (L.take i++[39,105,110]::L.drop i) _ _ (DW.texts (hV.own 0) Aeh (λt ht=>by
         rcases AaC.1 ht with h | h
         ·exact ab t (AbD h)
         ·rcases AaH.1 h with rfl | h
          ·decide
          ·exact ab t (AbE h))) AdY) ?_
        rintro u7 wt ⟨bv,rfl,hs,a3⟩;obtain⟨bp,bc,rfl⟩:=Ab.slice hs;replace hV:=by first | exact hV.ext a3 | exact Ab.ext' hV a3 (λ_ _ _ _ h=>h) | exact Aa.ext hV a3
        replace hD:=by first | exact hD.ext a3 | exact Ab.ext' hD a3 (λ_ _ _ _ h=>h) | exact Aa.ext hD a3
        have ee:=a3.size;have hE:=hE.trans a3;clear hS;apply LW.nil;refine QW.headed hE ?_;refine Ay ?_;refine Bd 12 λhS=>?_;refine Bt λB wl aa a3 hB=>?_;have ah:=hB.lt;have al:a8.heap.size≤B:=by rw[aa];exact hE.size
        first | (have a5:=Bk.nin hV (AbW aa.symm)) | skip
        replace hV:=by first | exact hV.ext a3 | exact Ab.ext' hV a3 (λ_ _ _ _ h=>h) | exact Aa.ext hV a3
        replace hs:=by first | exact hs.ext a3 | exact Ab.ext' hs a3 (λ_ _ _ _ h=>h) | exact Aa.ext hs a3
        replace hD:=by first | exact hD.ext a3 | exact Ab.ext' hD a3 (λ_ _ _ _ h=>h) | exact Aa.ext hD a3
        have ef:=a3.size;have hE:=hE.trans a3;clear hS;apply LW.nil;refine QW.headed hE ?_;refine Ay ?_;refine GW.tail rfl AdX (λhS=>?_);have ae:=hB;refine AM λwe a9 hB=>?_;have hs:=Ax hs ae (AJ _) a9;have hE:=hE.step a9 AdY;refine Sw ?_;exact QW.head (B,bp,bc) ⟨hE,hB,hs⟩ Dp
       ·refine Bt λB wl aa a3 hB=>?_;have ah:=hB.lt;have al:a8.heap.size≤B:=by rw[aa];exact hE.size
        first | (have a5:=Bk.nin hV (AbW aa.symm)) | skip
        replace hV:=by first | exact hV.ext a3 | exact Ab.ext' hV a3 (λ_ _ _ _ h=>h) | exact Aa.ext hV a3
        replace hD:=by first | exact hD.ext a3 | exact Ab.ext' hD a3 (λ_ _ _ _ h=>h) | exact Aa.ext hD a3
        have eg:=a3.size;have hE:=hE.trans a3;clear hS;apply LW.nil;refine QW.headed hE ?_;refine Ay ?_;refine Bd 11 λhS=>?_;rw[B8] at hV;refine Ar rfl rfl (An (L.take i++[39,105,110]::L.drop i) _ _ (DW.texts (hV.own 0) Aeh (λt ht=>by
         rcases AaC.1 ht with h | h
         ·exact ab t (AbD h)
         ·rcases AaH.1 h with rfl | h
          ·decide
          ·exact ab t (AbE h))) AdY) ?_
        rintro u7 wt ⟨bv,rfl,hs,a3⟩;obtain⟨bp,bc,rfl⟩:=Ab.slice hs;replace hV:=by first | exact hV.ext a3 | exact Ab.ext' hV a3 (λ_ _ _ _ h=>h) | exact Aa.ext hV a3
        replace hD:=by first | exact hD.ext a3 | exact Ab.ext' hD a3 (λ_ _ _ _ h=>h) | exact Aa.ext hD a3
        replace hB:=by first | exact hB.ext a3 | exact Ab.ext' hB a3 (λ_ _ _ _ h=>h) | exact Aa.ext hB a3
        have eh:=a3.size;have hE:=hE.trans a3;clear hS;apply LW.nil;refine QW.headed hE ?_;refine Ay ?_;refine GW.tail rfl AdX (λhS=>?_);have ae:=hB;refine AM λwe a9 hB=>?_;have hs:=Ax hs ae (AJ _) a9;have hE:=hE.step a9 AdY;refine Sw ?_;exact QW.head (B,bp,bc) ⟨hE,hB,hs⟩ Dp
      ·refine Bt λB wl aa a3 hB=>?_;have ah:=hB.lt;have al:a8.heap.size≤B:=by rw[aa];exact hE.size
       first | (have a5:=Bk.nin hV (AbW aa.symm)) | skip
       replace hV:=by first | exact hV.ext a3 | exact Ab.ext' hV a3 (λ_ _ _ _ h=>h) | exact Aa.ext hV a3
       replace hD:=by first | exact hD.ext a3 | exact Ab.ext' hD a3 (λ_ _ _ _ h=>h) | exact Aa.ext hD a3
       have ei:=a3.size;have hE:=hE.trans a3;clear hS;apply LW.nil;refine QW.headed hE ?_;refine Ay ?_;refine Bd 10 λhS=>?_;have a6:=hV.lo;have a7:=hE.size;refine LW.pushSrc 0 hV (Bo (a:=i) (Ak.ext hT hE) AdV af) Ae2 a7 Aeg ?_;intro u6 wt hc hu hV;rw[A9,A9] at hV;replace hV:Bk wt a8.heap.size (λ_:Fin 1=>u6) (λ_=>L.take i++[[39,105,110]]++L.drop i):=hV;have hE:=hE.step hc a6;replace hD:=hD.chg hc a4;replace hB:=hB.chg hc a5;clear hS;apply LW.nil;refine QW.headed hE ?_;refine Ay ?_;refine Bd 11 λhS=>?_;rw[B8] at hV;refine Ar rfl rfl (An (L.take i++[39,105,110]::L.drop i) _ _ (DW.texts (hV.own 0) Aeh (λt ht=>by
        rcases AaC.1 ht with h | h
        ·exact ab t (AbD h)
        ·rcases AaH.1 h with rfl | h
         ·decide
         ·exact ab t (AbE h))) AdY) ?_
       rintro u7 wt ⟨bv,rfl,hs,a3⟩;obtain⟨bp,bc,rfl⟩:=Ab.slice hs;replace hV:=by first | exact hV.ext a3 | exact Ab.ext' hV a3 (λ_ _ _ _ h=>h) | exact Aa.ext hV a3
       replace hD:=by first | exact hD.ext a3 | exact Ab.ext' hD a3 (λ_ _ _ _ h=>h) | exact Aa.ext hD a3
       replace hB:=by first | exact hB.ext a3 | exact Ab.ext' hB a3 (λ_ _ _ _ h=>h) | exact Aa.ext hB a3
       have ej:=a3.size;have hE:=hE.trans a3;clear hS;apply LW.nil;refine QW.headed hE ?_;refine Ay ?_;refine GW.tail rfl AdX (λhS=>?_);have ae:=hB;refine AM λwe a9 hB=>?_;have hs:=Ax hs ae (AJ _) a9;have hE:=hE.step a9 AdY;refine Sw ?_;exact QW.head (B,bp,bc) ⟨hE,hB,hs⟩ Dp
     ·refine Bt λB wl aa a3 hB=>?_;have ah:=hB.lt;have al:a8.heap.size≤B:=by rw[aa];exact hE.size
      first | (have a5:=Bk.nin hV (AbW aa.symm)) | skip
      replace hV:=by first | exact hV.ext a3 | exact Ab.ext' hV a3 (λ_ _ _ _ h=>h) | exact Aa.ext hV a3
      replace hD:=by first | exact hD.ext a3 | exact Ab.ext' hD a3 (λ_ _ _ _ h=>h) | exact Aa.ext hD a3
      have ek:=a3.size;have hE:=hE.trans a3;clear hS;apply LW.nil;refine QW.headed hE ?_;refine Ay ?_;refine Bd 6 λhS=>?_;have a6:=hV.lo;have a7:=hE.size;have ad:=hD.lt;have ag:=hB.lt;refine LW.pushU 0 hV hD a7 Aek ?_;intro u5 wt hc hu hV;rw[A9,A9] at hV;replace hV:Bk wt a8.heap.size (λ_:Fin 1=>u5) (λ_=>L.take i++[[39,105,110]]):=hV;have hE:=hE.step hc a6;replace hD:=hD.chg hc a4;replace hB:=hB.chg hc a5;have a4:D∉Ac ((λ_:Fin 1=>u5) 0):=λhm=>(hu _ hm).elim a4 λh=>by omega
      have a5:B∉Ac ((λ_:Fin 1=>u5) 0):=λhm=>(hu _ hm).elim a5 λh=>by omega
      clear hS;apply LW.nil;refine QW.headed hE ?_;refine Ay ?_;refine Bd 10 λhS=>?_;have a6:=hV.lo;have a7:=hE.size;refine LW.pushSrc 0 hV (Bo (a:=i) (Ak.ext hT hE) AdV af) Ae2 a7 Aeg ?_;intro u6 wt hc hu hV;rw[A9,A9] at hV;replace hV:Bk wt a8.heap.size (λ_:Fin 1=>u6) (λ_=>L.take i++[[39,105,110]]++L.drop i):=hV;have hE:=hE.step hc a6;replace hD:=hD.chg hc a4;replace hB:=hB.chg hc a5;clear hS;apply LW.nil;refine QW.headed hE ?_;refine Ay ?_;refine Bd 11 λhS=>?_;rw[B8] at hV;refine Ar rfl rfl (An (L.take i++[39,105,110]::L.drop i) _ _ (DW.texts (hV.own 0) Aeh (λt ht=>by
       rcases AaC.1 ht with h | h
       ·exact ab t (AbD h)
       ·rcases AaH.1 h with rfl | h
        ·decide
        ·exact ab t (AbE h))) AdY) ?_
      rintro u7 wt ⟨bv,rfl,hs,a3⟩;obtain⟨bp,bc,rfl⟩:=Ab.slice hs;replace hV:=by first | exact hV.ext a3 | exact Ab.ext' hV a3 (λ_ _ _ _ h=>h) | exact Aa.ext hV a3
      replace hD:=by first | exact hD.ext a3 | exact Ab.ext' hD a3 (λ_ _ _ _ h=>h) | exact Aa.ext hD a3
      replace hB:=by first | exact hB.ext a3 | exact Ab.ext' hB a3 (λ_ _ _ _ h=>h) | exact Aa.ext hB a3
      have el:=a3.size;have hE:=hE.trans a3;clear hS;apply LW.nil;refine QW.headed hE ?_;refine Ay ?_;refine GW.tail rfl AdX (λhS=>?_);have ae:=hB;refine AM λwe a9 hB=>?_;have hs:=Ax hs ae (AJ _) a9;have hE:=hE.step a9 AdY;refine Sw ?_;exact QW.head (B,bp,bc) ⟨hE,hB,hs⟩ Dp
    ·refine Bt λB wl aa a3 hB=>?_;have ah:=hB.lt;have al:a8.heap.size≤B:=by rw[aa];exact hE.size
     first | (have a5:=Bk.nin hV (AbW aa.symm)) | skip
     replace hV:=by first | exact hV.ext a3 | exact Ab.ext' hV a3 (λ_ _ _ _ h=>h) | exact Aa.ext hV a3
     have cu:=a3.size;have hE:=hE.trans a3;clear hS;apply LW.nil;refine QW.headed hE ?_;refine Ay ?_;refine Bd 5 λhS=>?_;refine CF λD wl ai a3 hD=>?_;have ak:=hD.lt;have b4:a8.heap.size≤D:=by rw[ai];exact hE.size
     first | (have a4:=Bk.nin hV (AbW ai.symm)) | skip
     replace hV:=by first | exact hV.ext a3 | exact Ab.ext' hV a3 (λ_ _ _ _ h=>h) | exact Aa.ext hV a3
     replace hB:=by first | exact hB.ext a3 | exact Ab.ext' hB a3 (λ_ _ _ _ h=>h) | exact Aa.ext hB a3
     have cw:=a3.size;have hE:=hE.trans a3;clear hS;apply LW.nil;refine QW.headed hE ?_;refine Ay ?_;refine Bd 6 λhS=>?_;have a6:=hV.lo;have a7:=hE.size;have ag:=hB.lt;have ad:=hD.lt;refine LW.pushU 0 hV hD a7 Aek ?_;intro u5 wt hc hu hV;rw[A9,A9] at hV;replace hV:Bk wt a8.heap.size (λ_:Fin 1=>u5) (λ_=>L.take i++[[39,105,110]]):=hV;have hE:=hE.step hc a6;replace hB:=hB.chg hc a5;replace hD:=hD.chg hc a4;have a5:B∉Ac ((λ_:Fin 1=>u5) 0):=λhm=>(hu _ hm).elim a5 λh=>by omega
     have a4:D∉Ac ((λ_:Fin 1=>u5) 0):=λhm=>(hu _ hm).elim a4 λh=>by omega
     clear hS;apply LW.nil;refine QW.headed hE ?_;refine Ay ?_;refine Bd 10 λhS=>?_;have a6:=hV.lo;have a7:=hE.size;refine LW.pushSrc 0 hV (Bo (a:=i) (Ak.ext hT hE) AdV af) Ae2 a7 Aeg ?_;intro u6 wt hc hu hV;rw[A9,A9] at hV;replace hV:Bk wt a8.heap.size (λ_:Fin 1=>u6) (λ_=>L.take i++[[39,105,110]]++L.drop i):=hV;have hE:=hE.step hc a6;replace hB:=hB.chg hc a5;replace hD:=hD.chg hc a4;clear hS;apply LW.nil;refine QW.headed hE ?_;refine Ay ?_;refine Bd 11 λhS=>?_;rw[B8] at hV;refine Ar rfl rfl (An (L.take i++[39,105,110]::L.drop i) _ _ (DW.texts (hV.own 0) Aeh (λt ht=>by
      rcases AaC.1 ht with h | h
      ·exact ab t (AbD h)
      ·rcases AaH.1 h with rfl | h
       ·decide
       ·exact ab t (AbE h))) AdY) ?_
     rintro u7 wt ⟨bv,rfl,hs,a3⟩;obtain⟨bp,bc,rfl⟩:=Ab.slice hs;replace hV:=by first | exact hV.ext a3 | exact Ab.ext' hV a3 (λ_ _ _ _ h=>h) | exact Aa.ext hV a3
     replace hB:=by first | exact hB.ext a3 | exact Ab.ext' hB a3 (λ_ _ _ _ h=>h) | exact Aa.ext hB a3
     replace hD:=by first | exact hD.ext a3 | exact Ab.ext' hD a3 (λ_ _ _ _ h=>h) | exact Aa.ext hD a3
     have cx:=a3.size;have hE:=hE.trans a3;clear hS;apply LW.nil;refine QW.headed hE ?_;refine Ay ?_;refine GW.tail rfl AdX (λhS=>?_);have ae:=hB;refine AM λwe a9 hB=>?_;have hs:=Ax hs ae (AJ _) a9;have hE:=hE.step a9 AdY;refine Sw ?_;exact QW.head (B,bp,bc) ⟨hE,hB,hs⟩ Dp
   ·refine CF λD wl ai a3 hD=>?_;have ak:=hD.lt;have b4:a8.heap.size≤D:=by rw[ai];exact hE.size
    first | (have a4:=Bk.nin hV (AbW ai.symm)) | skip
    replace hV:=by first | exact hV.ext a3 | exact Ab.ext' hV a3 (λ_ _ _ _ h=>h) | exact Aa.ext hV a3
    have cy:=a3.size;have hE:=hE.trans a3;clear hS;apply LW.nil;refine QW.headed hE ?_;refine Ay ?_;refine GW.two 4 12 AdX rfl rfl rfl rfl rfl rfl (λhS=>?_) (λhS=>?_)
    ·have a6:=hV.lo;have a7:=hE.size;have ad:=hD.lt;refine LW.pushSrc 0 hV (C6 (a:=i) (Ak.ext hT hE) AdV) Aey a7 Ael ?_;intro u4 wt hc hu hV;rw[A9,A9] at hV;replace hV:Bk wt a8.heap.size (λ_:Fin 1=>u4) (λ_=>L.take i):=hV;have hE:=hE.step hc a6;replace hD:=hD.chg hc a4;have a4:D∉Ac ((λ_:Fin 1=>u4) 0):=λhm=>(hu _ hm).elim a4 λh=>by omega
     clear hS;apply LW.nil;refine QW.headed hE ?_;refine Ay ?_;refine GW.two 6 12 AdX rfl rfl rfl rfl rfl rfl (λhS=>?_) (λhS=>?_)
     ·have a6:=hV.lo;have a7:=hE.size;have ad:=hD.lt;refine LW.pushU 0 hV hD a7 Aek ?_;intro u5 wt hc hu hV;rw[A9,A9] at hV;replace hV:Bk wt a8.heap.size (λ_:Fin 1=>u5) (λ_=>L.take i++[[39,105,110]]):=hV;have hE:=hE.step hc a6;replace hD:=hD.chg hc a4;have a4:D∉Ac ((λ_:Fin 1=>u5) 0):=λhm=>(hu _ hm).elim a4 λh=>by omega
      clear hS;apply LW.nil;refine QW.headed hE ?_;refine Ay ?_;refine GW.two 10 12 AdX rfl rfl rfl rfl rfl rfl (λhS=>?_) (λhS=>?_)
      ·have a6:=hV.lo;have a7:=hE.size;refine LW.pushSrc 0 hV (Bo (a:=i) (Ak.ext hT hE) AdV af) Ae2 a7 Aeg ?_;intro u6 wt hc hu hV;rw[A9,A9] at hV;replace hV:Bk wt a8.heap.size (λ_:Fin 1=>u6) (λ_=>L.take i++[[39,105,110]]++L.drop i):=hV;have hE:=hE.step hc a6;replace hD:=hD.chg hc a4;clear hS;apply LW.nil;refine QW.headed hE ?_;refine Ay ?_;refine GW.two 11 12 AdX rfl rfl rfl rfl rfl rfl (λhS=>?_) (λhS=>?_)
       ·rw[B8] at hV;refine Ar rfl rfl (An (L.take i++[39,105,110]::L.drop i) _ _ (DW.texts (hV.own 0) Aeh (λt ht=>by
         rcases AaC.1 ht with h | h
         ·exact ab t (AbD h)
         ·rcases AaH.1 h with rfl | h
          ·decide
          ·exact ab t (AbE h))) AdY) ?_
        rintro u7 wt ⟨bv,rfl,hs,a3⟩;obtain⟨bp,bc,rfl⟩:=Ab.slice hs;replace hV:=by first | exact hV.ext a3 | exact Ab.ext' hV a3 (λ_ _ _ _ h=>h) | exact Aa.ext hV a3
        replace hD:=by first | exact hD.ext a3 | exact Ab.ext' hD a3 (λ_ _ _ _ h=>h) | exact Aa.ext hD a3
        have cz:=a3.size;have hE:=hE.trans a3;clear hS;apply LW.nil;refine QW.headed hE ?_;refine Ay ?_;refine Bd 12 λhS=>?_;refine Bt λB wl aa a3 hB=>?_;have ah:=hB.lt;have al:a8.heap.size≤B:=by rw[aa];exact hE.size
        first | (have a5:=Bk.nin hV (AbW aa.symm)) | skip
        replace hV:=by first | exact hV.ext a3 | exact Ab.ext' hV a3 (λ_ _ _ _ h=>h) | exact Aa.ext hV a3
        replace hs:=by first | exact hs.ext a3 | exact Ab.ext' hs a3 (λ_ _ _ _ h=>h) | exact Aa.ext hs a3
        replace hD:=by first | exact hD.ext a3 | exact Ab.ext' hD a3 (λ_ _ _ _ h=>h) | exact Aa.ext hD a3
        have d0:=a3.size;have hE:=hE.trans a3;clear hS;apply LW.nil;refine QW.headed hE ?_;refine Ay ?_;refine GW.tail rfl AdX (λhS=>?_);have ae:=hB;refine AM λwe a9 hB=>?_;have hs:=Ax hs ae (AJ _) a9;have hE:=hE.step a9 AdY;refine Sw ?_;exact QW.head (B,bp,bc) ⟨hE,hB,hs⟩ Dp
       ·refine Bt λB wl aa a3 hB=>?_;have ah:=hB.lt;have al:a8.heap.size≤B:=by rw[aa];exact hE.size
        first | (have a5:=Bk.nin hV (AbW aa.symm)) | skip
        replace hV:=by first | exact hV.ext a3 | exact Ab.ext' hV a3 (λ_ _ _ _ h=>h) | exact Aa.ext hV a3
        replace hD:=by first | exact hD.ext a3 | exact Ab.ext' hD a3 (λ_ _ _ _ h=>h) | exact Aa.ext hD a3
        have d1:=a3.size;have hE:=hE.trans a3;clear hS;apply LW.nil;refine QW.headed hE ?_;refine Ay ?_;refine Bd 11 λhS=>?_;rw[B8] at hV;refine Ar rfl rfl (An (L.take i++[39,105,110]::L.drop i) _ _ (DW.texts (hV.own 0) Aeh (λt ht=>by
         rcases AaC.1 ht with h | h
         ·exact ab t (AbD h)
         ·rcases AaH.1 h with rfl | h
          ·decide
          ·exact ab t (AbE h))) AdY) ?_
        rintro u7 wt ⟨bv,rfl,hs,a3⟩;obtain⟨bp,bc,rfl⟩:=Ab.slice hs;replace hV:=by first | exact hV.ext a3 | exact Ab.ext' hV a3 (λ_ _ _ _ h=>h) | exact Aa.ext hV a3
        replace hD:=by first | exact hD.ext a3 | exact Ab.ext' hD a3 (λ_ _ _ _ h=>h) | exact Aa.ext hD a3
        replace hB:=by first | exact hB.ext a3 | exact Ab.ext' hB a3 (λ_ _ _ _ h=>h) | exact Aa.ext hB a3
        have d2:=a3.size;have hE:=hE.trans a3;clear hS;apply LW.nil;refine QW.headed hE ?_;refine Ay ?_;refine GW.tail rfl AdX (λhS=>?_);have ae:=hB;refine AM λwe a9 hB=>?_;have hs:=Ax hs ae (AJ _) a9;have hE:=hE.step a9 AdY;refine Sw ?_;exact QW.head (B,bp,bc) ⟨hE,hB,hs⟩ Dp
      ·refine Bt λB wl aa a3 hB=>?_;have ah:=hB.lt;have al:a8.heap.size≤B:=by rw[aa];exact hE.size
       first | (have a5:=Bk.nin hV (AbW aa.symm)) | skip
       replace hV:=by first | exact hV.ext a3 | exact Ab.ext' hV a3 (λ_ _ _ _ h=>h) | exact Aa.ext hV a3
       replace hD:=by first | exact hD.ext a3 | exact Ab.ext' hD a3 (λ_ _ _ _ h=>h) | exact Aa.ext hD a3
       have d4:=a3.size;have hE:=hE.trans a3;clear hS;apply LW.nil;refine QW.headed hE ?_;refine Ay ?_;refine Bd 10 λhS=>?_;have a6:=hV.lo;have a7:=hE.size;refine LW.pushSrc 0 hV (Bo (a:=i) (Ak.ext hT hE) AdV af) Ae2 a7 Aeg ?_;intro u6 wt hc hu hV;rw[A9,A9] at hV;replace hV:Bk wt a8.heap.size (λ_:Fin 1=>u6) (λ_=>L.take i++[[39,105,110]]++L.drop i):=hV;have hE:=hE.step hc a6;replace hD:=hD.chg hc a4;replace hB:=hB.chg hc a5;clear hS;apply LW.nil;refine QW.headed hE ?_;refine Ay ?_;refine Bd 11 λhS=>?_;rw[B8] at hV;refine Ar rfl rfl (An (L.take i++[39,105,110]::L.drop i) _ _ (DW.texts (hV.own 0) Aeh (λt ht=>by
        rcases AaC.1 ht with h | h
        ·exact ab t (AbD h)
        ·rcases AaH.1 h with rfl | h
         ·decide
         ·exact ab t (AbE h))) AdY) ?_
       rintro u7 wt ⟨bv,rfl,hs,a3⟩;obtain⟨bp,bc,rfl⟩:=Ab.slice hs;replace hV:=by first | exact hV.ext a3 | exact Ab.ext' hV a3 (λ_ _ _ _ h=>h) | exact Aa.ext hV a3
       replace hD:=by first | exact hD.ext a3 | exact Ab.ext' hD a3 (λ_ _ _ _ h=>h) | exact Aa.ext hD a3
       replace hB:=by first | exact hB.ext a3 | exact Ab.ext' hB a3 (λ_ _ _ _ h=>h) | exact Aa.ext hB a3
       have d5:=a3.size;have hE:=hE.trans a3;clear hS;apply LW.nil;refine QW.headed hE ?_;refine Ay ?_;refine GW.tail rfl AdX (λhS=>?_);have ae:=hB;refine AM λwe a9 hB=>?_;have hs:=Ax hs ae (AJ _) a9;have hE:=hE.step a9 AdY;refine Sw ?_;exact QW.head (B,bp,bc) ⟨hE,hB,hs⟩ Dp
     ·refine Bt λB wl aa a3 hB=>?_;have ah:=hB.lt;have al:a8.heap.size≤B:=by rw[aa];exact hE.size
      first | (have a5:=Bk.nin hV (AbW aa.symm)) | skip
      replace hV:=by first | exact hV.ext a3 | exact Ab.ext' hV a3 (λ_ _ _ _ h=>h) | exact Aa.ext hV a3
      replace hD:=by first | exact hD.ext a3 | exact Ab.ext' hD a3 (λ_ _ _ _ h=>h) | exact Aa.ext hD a3
      have d6:=a3.size;have hE:=hE.trans a3;clear hS;apply LW.nil;refine QW.headed hE ?_;refine Ay ?_;refine Bd 6 λhS=>?_;have a6:=hV.lo;have a7:=hE.size;have ad:=hD.lt;have ag:=hB.lt;refine LW.pushU 0 hV hD a7 Aek ?_;intro u5 wt hc hu hV;rw[A9,A9] at hV;replace hV:Bk wt a8.heap.size (λ_:Fin 1=>u5) (λ_=>L.take i++[[39,105,110]]):=hV;have hE:=hE.step hc a6;replace hD:=hD.chg hc a4;replace hB:=hB.chg hc a5;have a4:D∉Ac ((λ_:Fin 1=>u5) 0):=λhm=>(hu _ hm).elim a4 λh=>by omega
      have a5:B∉Ac ((λ_:Fin 1=>u5) 0):=λhm=>(hu _ hm).elim a5 λh=>by omega
      clear hS;apply LW.nil;refine QW.headed hE ?_;refine Ay ?_;refine Bd 10 λhS=>?_;have a6:=hV.lo;have a7:=hE.size;refine LW.pushSrc 0 hV (Bo (a:=i) (Ak.ext hT hE) AdV af) Ae2 a7 Aeg ?_;intro u6 wt hc hu hV;rw[A9,A9] at hV;replace hV:Bk wt a8.heap.size (λ_:Fin 1=>u6) (λ_=>L.take i++[[39,105,110]]++L.drop i):=hV;have hE:=hE.step hc a6;replace hD:=hD.chg hc a4;replace hB:=hB.chg hc a5;clear hS;apply LW.nil;refine QW.headed hE ?_;refine Ay ?_;refine Bd 11 λhS=>?_;rw[B8] at hV;refine Ar rfl rfl (An (L.take i++[39,105,110]::L.drop i) _ _ (DW.texts (hV.own 0) Aeh (λt ht=>by
       rcases AaC.1 ht with h | h
       ·exact ab t (AbD h)
       ·rcases AaH.1 h with rfl | h
        ·decide
        ·exact ab t (AbE h))) AdY) ?_
      rintro u7 wt ⟨bv,rfl,hs,a3⟩;obtain⟨bp,bc,rfl⟩:=Ab.slice hs;replace hV:=by first | exact hV.ext a3 | exact Ab.ext' hV a3 (λ_ _ _ _ h=>h) | exact Aa.ext hV a3
      replace hD:=by first | exact hD.ext a3 | exact Ab.ext' hD a3 (λ_ _ _ _ h=>h) | exact Aa.ext hD a3
      replace hB:=by first | exact hB.ext a3 | exact Ab.ext' hB a3 (λ_ _ _ _ h=>h) | exact Aa.ext hB a3
      have d7:=a3.size;have hE:=hE.trans a3;clear hS;apply LW.nil;refine QW.headed hE ?_;refine Ay ?_;refine GW.tail rfl AdX (λhS=>?_);have ae:=hB;refine AM λwe a9 hB=>?_;have hs:=Ax hs ae (AJ _) a9;have hE:=hE.step a9 AdY;refine Sw ?_;exact QW.head (B,bp,bc) ⟨hE,hB,hs⟩ Dp
    ·refine Bt λB wl aa a3 hB=>?_;have ah:=hB.lt;have al:a8.heap.size≤B:=by rw[aa];exact hE.size
     first | (have a5:=Bk.nin hV (AbW aa.symm)) | skip
     replace hV:=by first | exact hV.ext a3 | exact Ab.ext' hV a3 (λ_ _ _ _ h=>h) | exact Aa.ext hV a3
     replace hD:=by first | exact hD.ext a3 | exact Ab.ext' hD a3 (λ_ _ _ _ h=>h) | exact Aa.ext hD a3
     have d8:=a3.size;have hE:=hE.trans a3;clear hS;apply LW.nil;refine QW.headed hE ?_;refine Ay ?_;refine Bd 4 λhS=>?_;have a6:=hV.lo;have a7:=hE.size;have ad:=hD.lt;have ag:=hB.lt;refine LW.pushSrc 0 hV (C6 (a:=i) (Ak.ext hT hE) AdV) Aey a7 Ael ?_;intro u4 wt hc hu hV;rw[A9,A9] at hV;replace hV:Bk wt a8.heap.size (λ_:Fin 1=>u4) (λ_=>L.take i):=hV;have hE:=hE.step hc a6;replace hD:=hD.chg hc a4;replace hB:=hB.chg hc a5;have a4:D∉Ac ((λ_:Fin 1=>u4) 0):=λhm=>(hu _ hm).elim a4 λh=>by omega
     have a5:B∉Ac ((λ_:Fin 1=>u4) 0):=λhm=>(hu _ hm).elim a5 λh=>by omega
     clear hS;apply LW.nil;refine QW.headed hE ?_;refine Ay ?_;refine Bd 6 λhS=>?_;have a6:=hV.lo;have a7:=hE.size;have ad:=hD.lt;have ag:=hB.lt;refine LW.pushU 0 hV hD a7 Aek ?_;intro u5 wt hc hu hV;rw[A9,A9] at hV;replace hV:Bk wt a8.heap.size (λ_:Fin 1=>u5) (λ_=>L.take i++[[39,105,110]]):=hV;have hE:=hE.step hc a6;replace hD:=hD.chg hc a4;replace hB:=hB.chg hc a5;have a4:D∉Ac ((λ_:Fin 1=>u5) 0):=λhm=>(hu _ hm).elim a4 λh=>by omega
     have a5:B∉Ac ((λ_:Fin 1=>u5) 0):=λhm=>(hu _ hm).elim a5 λh=>by omega
     clear hS;apply LW.nil;refine QW.headed hE ?_;refine Ay ?_;refine Bd 10 λhS=>?_;have a6:=hV.lo;have a7:=hE.size;refine LW.pushSrc 0 hV (Bo (a:=i) (Ak.ext hT hE) AdV af) Ae2 a7 Aeg ?_;intro u6 wt hc hu hV;rw[A9,A9] at hV;replace hV:Bk wt a8.heap.size (λ_:Fin 1=>u6) (λ_=>L.take i++[[39,105,110]]++L.drop i):=hV;have hE:=hE.step hc a6;replace hD:=hD.chg hc a4;replace hB:=hB.chg hc a5;clear hS;apply LW.nil;refine QW.headed hE ?_;refine Ay ?_;refine Bd 11 λhS=>?_;rw[B8] at hV;refine Ar rfl rfl (An (L.take i++[39,105,110]::L.drop i) _ _ (DW.texts (hV.own 0) Aeh (λt ht=>by
      rcases AaC.1 ht with h | h
      ·exact ab t (AbD h)
      ·rcases AaH.1 h with rfl | h
       ·decide
       ·exact ab t (AbE h))) AdY) ?_
     rintro u7 wt ⟨bv,rfl,hs,a3⟩;obtain⟨bp,bc,rfl⟩:=Ab.slice hs;replace hV:=by first | exact hV.ext a3 | exact Ab.ext' hV a3 (λ_ _ _ _ h=>h) | exact Aa.ext hV a3
     replace hD:=by first | exact hD.ext a3 | exact Ab.ext' hD a3 (λ_ _ _ _ h=>h) | exact Aa.ext hD a3
     replace hB:=by first | exact hB.ext a3 | exact Ab.ext' hB a3 (λ_ _ _ _ h=>h) | exact Aa.ext hB a3
     have d9:=a3.size;have hE:=hE.trans a3;clear hS;apply LW.nil;refine QW.headed hE ?_;refine Ay ?_;refine GW.tail rfl AdX (λhS=>?_);have ae:=hB;refine AM λwe a9 hB=>?_;have hs:=Ax hs ae (AJ _) a9;have hE:=hE.step a9 AdY;refine Sw ?_;exact QW.head (B,bp,bc) ⟨hE,hB,hs⟩ Dp
   ·refine Bt λB wl aa a3 hB=>?_;have ah:=hB.lt;have al:a8.heap.size≤B:=by rw[aa];exact hE.size
    first | (have a5:=Bk.nin hV (AbW aa.symm)) | skip
    replace hV:=by first | exact hV.ext a3 | exact Ab.ext' hV a3 (λ_ _ _ _ h=>h) | exact Aa.ext hV a3
    have da:=a3.size;have hE:=hE.trans a3;clear hS;apply LW.nil;refine QW.headed hE ?_;refine Ay ?_;refine GW.two 4 5 AdX rfl rfl rfl rfl rfl rfl (λhS=>?_) (λhS=>?_)
    ·have a6:=hV.lo;have a7:=hE.size;have ag:=hB.lt;refine LW.pushSrc 0 hV (C6 (a:=i) (Ak.ext hT hE) AdV) Aey a7 Ael ?_;intro u4 wt hc hu hV;rw[A9,A9] at hV;replace hV:Bk wt a8.heap.size (λ_:Fin 1=>u4) (λ_=>L.take i):=hV;have hE:=hE.step hc a6;replace hB:=hB.chg hc a5;have a5:B∉Ac ((λ_:Fin 1=>u4) 0):=λhm=>(hu _ hm).elim a5 λh=>by omega
     clear hS;apply LW.nil;refine QW.headed hE ?_;refine Ay ?_;refine Bd 5 λhS=>?_;refine CF λD wl ai a3 hD=>?_;have ak:=hD.lt;have b4:a8.heap.size≤D:=by rw[ai];exact hE.size
     first | (have a4:=Bk.nin hV (AbW ai.symm)) | skip
     replace hV:=by first | exact hV.ext a3 | exact Ab.ext' hV a3 (λ_ _ _ _ h=>h) | exact Aa.ext hV a3
     replace hB:=by first | exact hB.ext a3 | exact Ab.ext' hB a3 (λ_ _ _ _ h=>h) | exact Aa.ext hB a3
     have db:=a3.size;have hE:=hE.trans a3;clear hS;apply LW.nil;refine QW.headed hE ?_;refine Ay ?_;refine Bd 6 λhS=>?_;have a6:=hV.lo;have a7:=hE.size;have ag:=hB.lt;have ad:=hD.lt;refine LW.pushU 0 hV hD a7 Aek ?_;intro u5 wt hc hu hV;rw[A9,A9] at hV;replace hV:Bk wt a8.heap.size (λ_:Fin 1=>u5) (λ_=>L.take i++[[39,105,110]]):=hV;have hE:=hE.step hc a6;replace hB:=hB.chg hc a5;replace hD:=hD.chg hc a4;have a5:B∉Ac ((λ_:Fin 1=>u5) 0):=λhm=>(hu _ hm).elim a5 λh=>by omega
     have a4:D∉Ac ((λ_:Fin 1=>u5) 0):=λhm=>(hu _ hm).elim a4 λh=>by omega
     clear hS;apply LW.nil;refine QW.headed hE ?_;refine Ay ?_;refine Bd 10 λhS=>?_;have a6:=hV.lo;have a7:=hE.size;refine LW.pushSrc 0 hV (Bo (a:=i) (Ak.ext hT hE) AdV af) Ae2 a7 Aeg ?_;intro u6 wt hc hu hV;rw[A9,A9] at hV;replace hV:Bk wt a8.heap.size (λ_:Fin 1=>u6) (λ_=>L.take i++[[39,105,110]]++L.drop i):=hV;have hE:=hE.step hc a6;replace hB:=hB.chg hc a5;replace hD:=hD.chg hc a4;clear hS;apply LW.nil;refine QW.headed hE ?_;refine Ay ?_;refine Bd 11 λhS=>?_;rw[B8] at hV;refine Ar rfl rfl (An (L.take i++[39,105,110]::L.drop i) _ _ (DW.texts (hV.own 0) Aeh (λt ht=>by
      rcases AaC.1 ht with h | h
      ·exact ab t (AbD h)
      ·rcases AaH.1 h with rfl | h
       ·decide
       ·exact ab t (AbE h))) AdY) ?_
     rintro u7 wt ⟨bv,rfl,hs,a3⟩;obtain⟨bp,bc,rfl⟩:=Ab.slice hs;replace hV:=by first | exact hV.ext a3 | exact Ab.ext' hV a3 (λ_ _ _ _ h=>h) | exact Aa.ext hV a3
     replace hB:=by first | exact hB.ext a3 | exact Ab.ext' hB a3 (λ_ _ _ _ h=>h) | exact Aa.ext hB a3
     replace hD:=by first | exact hD.ext a3 | exact Ab.ext' hD a3 (λ_ _ _ _ h=>h) | exact Aa.ext hD a3
     have dc:=a3.size;have hE:=hE.trans a3;clear hS;apply LW.nil;refine QW.headed hE ?_;refine Ay ?_;refine GW.tail rfl AdX (λhS=>?_);have ae:=hB;refine AM λwe a9 hB=>?_;have hs:=Ax hs ae (AJ _) a9;have hE:=hE.step a9 AdY;refine Sw ?_;exact QW.head (B,bp,bc) ⟨hE,hB,hs⟩ Dp
    ·refine CF λD wl ai a3 hD=>?_;have ak:=hD.lt;have b4:a8.heap.size≤D:=by rw[ai];exact hE.size
     first | (have a4:=Bk.nin hV (AbW ai.symm)) | skip
     replace hV:=by first | exact hV.ext a3 | exact Ab.ext' hV a3 (λ_ _ _ _ h=>h) | exact Aa.ext hV a3
     replace hB:=by first | exact hB.ext a3 | exact Ab.ext' hB a3 (λ_ _ _ _ h=>h) | exact Aa.ext hB a3
     have dd:=a3.size;have hE:=hE.trans a3;clear hS;apply LW.nil;refine QW.headed hE ?_;refine Ay ?_;refine Bd 4 λhS=>?_;have a6:=hV.lo;have a7:=hE.size;have ag:=hB.lt;have ad:=hD.lt;refine LW.pushSrc 0 hV (C6 (a:=i) (Ak.ext hT hE) AdV) Aey a7 Ael ?_;intro u4 wt hc hu hV;rw[A9,A9] at hV;replace hV:Bk wt a8.heap.size (λ_:Fin 1=>u4) (λ_=>L.take i):=hV;have hE:=hE.step hc a6;replace hB:=hB.chg hc a5;replace hD:=hD.chg hc a4;have a5:B∉Ac ((λ_:Fin 1=>u4) 0):=λhm=>(hu _ hm).elim a5 λh=>by omega
     have a4:D∉Ac ((λ_:Fin 1=>u4) 0):=λhm=>(hu _ hm).elim a4 λh=>by omega
     clear hS;apply LW.nil;refine QW.headed hE ?_;refine Ay ?_;refine Bd 6 λhS=>?_;have a6:=hV.lo;have a7:=hE.size;have ag:=hB.lt;have ad:=hD.lt;refine LW.pushU 0 hV hD a7 Aek ?_;intro u5 wt hc hu hV;rw[A9,A9] at hV;replace hV:Bk wt a8.heap.size (λ_:Fin 1=>u5) (λ_=>L.take i++[[39,105,110]]):=hV;have hE:=hE.step hc a6;replace hB:=hB.chg hc a5;replace hD:=hD.chg hc a4;have a5:B∉Ac ((λ_:Fin 1=>u5) 0):=λhm=>(hu _ hm).elim a5 λh=>by omega
     have a4:D∉Ac ((λ_:Fin 1=>u5) 0):=λhm=>(hu _ hm).elim a4 λh=>by omega
     clear hS;apply LW.nil;refine QW.headed hE ?_;refine Ay ?_;refine Bd 10 λhS=>?_;have a6:=hV.lo;have a7:=hE.size;refine LW.pushSrc 0 hV (Bo (a:=i) (Ak.ext hT hE) AdV af) Ae2 a7 Aeg ?_;intro u6 wt hc hu hV;rw[A9,A9] at hV;replace hV:Bk wt a8.heap.size (λ_:Fin 1=>u6) (λ_=>L.take i++[[39,105,110]]++L.drop i):=hV;have hE:=hE.step hc a6;replace hB:=hB.chg hc a5;replace hD:=hD.chg hc a4;clear hS;apply LW.nil;refine QW.headed hE ?_;refine Ay ?_;refine Bd 11 λhS=>?_;rw[B8] at hV;refine Ar rfl rfl (An (L.take i++[39,105,110]::L.drop i) _ _ (DW.texts (hV.own 0) Aeh (λt ht=>by
      rcases AaC.1 ht with h | h
      ·exact ab t (AbD h)
      ·rcases AaH.1 h with rfl | h
       ·decide
       ·exact ab t (AbE h))) AdY) ?_
     rintro u7 wt ⟨bv,rfl,hs,a3⟩;obtain⟨bp,bc,rfl⟩:=Ab.slice hs;replace hV:=by first | exact hV.ext a3 | exact Ab.ext' hV a3 (λ_ _ _ _ h=>h) | exact Aa.ext hV a3
     replace hB:=by first | exact hB.ext a3 | exact Ab.ext' hB a3 (λ_ _ _ _ h=>h) | exact Aa.ext hB a3
     replace hD:=by first | exact hD.ext a3 | exact Ab.ext' hD a3 (λ_ _ _ _ h=>h) | exact Aa.ext hD a3
     have de:=a3.size;have hE:=hE.trans a3;clear hS;apply LW.nil;refine QW.headed hE ?_;refine Ay ?_;refine GW.tail rfl AdX (λhS=>?_);have ae:=hB;refine AM λwe a9 hB=>?_;have hs:=Ax hs ae (AJ _) a9;have hE:=hE.step a9 AdY;refine Sw ?_;exact QW.head (B,bp,bc) ⟨hE,hB,hs⟩ Dp
  ·refine CF λD wl ai a3 hD=>?_;have ak:=hD.lt;have b4:a8.heap.size≤D:=by rw[ai];exact hE.size
   first | (have a4:=Bk.nin hV (AbW ai.symm)) | skip
   have df:=a3.size;have hE:=hE.trans a3;clear hS;apply LW.nil;refine QW.headed hE ?_;refine Ay ?_;refine GW.two 0 12 AdX rfl rfl rfl rfl rfl rfl (λhS=>?_) (λhS=>?_)
   ·(apply LW.buildSlice0;exact rfl;exact rfl;exact rfl;exact rfl;intro A1 wt az a3 b0)
    have hV:=Bk.one (DW.empty (lo:=a8.heap.size) b0 AeD);have hE:=hE.trans a3;have a4:D∉Ac ((λ_:Fin 1=>Value.slice (some ⟨A1,0,none⟩) 0 0) 0):=by have:=hD.lt;show D∉[A1];simp;omega
    replace hD:=hD.ext a3;clear hS;apply LW.nil;refine QW.headed hE ?_;refine Ay ?_;refine GW.two 4 12 AdX rfl rfl rfl rfl rfl rfl (λhS=>?_) (λhS=>?_)
    ·have a6:=hV.lo;have a7:=hE.size;have ad:=hD.lt;refine LW.pushSrc 0 hV (C6 (a:=i) (Ak.ext hT hE) AdV) Aey a7 Ael ?_;intro u4 wt hc hu hV;rw[A9,A9] at hV;replace hV:Bk wt a8.heap.size (λ_:Fin 1=>u4) (λ_=>L.take i):=hV;have hE:=hE.step hc a6;replace hD:=hD.chg hc a4;have a4:D∉Ac ((λ_:Fin 1=>u4) 0):=λhm=>(hu _ hm).elim a4 λh=>by omega
     clear hS;apply LW.nil;refine QW.headed hE ?_;refine Ay ?_;refine GW.two 6 12 AdX rfl rfl rfl rfl rfl rfl (λhS=>?_) (λhS=>?_)
     ·have a6:=hV.lo;have a7:=hE.size;have ad:=hD.lt;refine LW.pushU 0 hV hD a7 Aek ?_;intro u5 wt hc hu hV;rw[A9,A9] at hV;replace hV:Bk wt a8.heap.size (λ_:Fin 1=>u5) (λ_=>L.take i++[[39,105,110]]):=hV;have hE:=hE.step hc a6;replace hD:=hD.chg hc a4;have a4:D∉Ac ((λ_:Fin 1=>u5) 0):=λhm=>(hu _ hm).elim a4 λh=>by omega
      clear hS;apply LW.nil;refine QW.headed hE ?_;refine Ay ?_;refine GW.two 10 12 AdX rfl rfl rfl rfl rfl rfl (λhS=>?_) (λhS=>?_)
      ·have a6:=hV.lo;have a7:=hE.size;refine LW.pushSrc 0 hV (Bo (a:=i) (Ak.ext hT hE) AdV af) Ae2 a7 Aeg ?_;intro u6 wt hc hu hV;rw[A9,A9] at hV;replace hV:Bk wt a8.heap.size (λ_:Fin 1=>u6) (λ_=>L.take i++[[39,105,110]]++L.drop i):=hV;have hE:=hE.step hc a6;replace hD:=hD.chg hc a4;clear hS;apply LW.nil;refine QW.headed hE ?_;refine Ay ?_;refine GW.two 11 12 AdX rfl rfl rfl rfl rfl rfl (λhS=>?_) (λhS=>?_)
       ·rw[B8] at hV;refine Ar rfl rfl (An (L.take i++[39,105,110]::L.drop i) _ _ (DW.texts (hV.own 0) Aeh (λt ht=>by
         rcases AaC.1 ht with h | h
         ·exact ab t (AbD h)
         ·rcases AaH.1 h with rfl | h
          ·decide
          ·exact ab t (AbE h))) AdY) ?_
        rintro u7 wt ⟨bv,rfl,hs,a3⟩;obtain⟨bp,bc,rfl⟩:=Ab.slice hs;replace hV:=by first | exact hV.ext a3 | exact Ab.ext' hV a3 (λ_ _ _ _ h=>h) | exact Aa.ext hV a3
        replace hD:=by first | exact hD.ext a3 | exact Ab.ext' hD a3 (λ_ _ _ _ h=>h) | exact Aa.ext hD a3
        have dg:=a3.size;have hE:=hE.trans a3;clear hS;apply LW.nil;refine QW.headed hE ?_;refine Ay ?_;refine Bd 12 λhS=>?_;refine Bt λB wl aa a3 hB=>?_;have ah:=hB.lt;have al:a8.heap.size≤B:=by rw[aa];exact hE.size
        first | (have a5:=Bk.nin hV (AbW aa.symm)) | skip
        replace hV:=by first | exact hV.ext a3 | exact Ab.ext' hV a3 (λ_ _ _ _ h=>h) | exact Aa.ext hV a3
        replace hs:=by first | exact hs.ext a3 | exact Ab.ext' hs a3 (λ_ _ _ _ h=>h) | exact Aa.ext hs a3
        replace hD:=by first | exact hD.ext a3 | exact Ab.ext' hD a3 (λ_ _ _ _ h=>h) | exact Aa.ext hD a3
        have dh:=a3.size;have hE:=hE.trans a3;clear hS;apply LW.nil;refine QW.headed hE ?_;refine Ay ?_;refine GW.tail rfl AdX (λhS=>?_);have ae:=hB;refine AM λwe a9 hB=>?_;have hs:=Ax hs ae (AJ _) a9;have hE:=hE.step a9 AdY;refine Sw ?_;exact QW.head (B,bp,bc) ⟨hE,hB,hs⟩ Dp
       ·refine Bt λB wl aa a3 hB=>?_;have ah:=hB.lt;have al:a8.heap.size≤B:=by rw[aa];exact hE.size
        first | (have a5:=Bk.nin hV (AbW aa.symm)) | skip
        replace hV:=by first | exact hV.ext a3 | exact Ab.ext' hV a3 (λ_ _ _ _ h=>h) | exact Aa.ext hV a3
        replace hD:=by first | exact hD.ext a3 | exact Ab.ext' hD a3 (λ_ _ _ _ h=>h) | exact Aa.ext hD a3
        have di:=a3.size;have hE:=hE.trans a3;clear hS;apply LW.nil;refine QW.headed hE ?_;refine Ay ?_;refine Bd 11 λhS=>?_;rw[B8] at hV;refine Ar rfl rfl (An (L.take i++[39,105,110]::L.drop i) _ _ (DW.texts (hV.own 0) Aeh (λt ht=>by
         rcases AaC.1 ht with h | h
         ·exact ab t (AbD h)
         ·rcases AaH.1 h with rfl | h
          ·decide
          ·exact ab t (AbE h))) AdY) ?_
        rintro u7 wt ⟨bv,rfl,hs,a3⟩;obtain⟨bp,bc,rfl⟩:=Ab.slice hs;replace hV:=by first | exact hV.ext a3 | exact Ab.ext' hV a3 (λ_ _ _ _ h=>h) | exact Aa.ext hV a3
        replace hD:=by first | exact hD.ext a3 | exact Ab.ext' hD a3 (λ_ _ _ _ h=>h) | exact Aa.ext hD a3
        replace hB:=by first | exact hB.ext a3 | exact Ab.ext' hB a3 (λ_ _ _ _ h=>h) | exact Aa.ext hB a3
        have dj:=a3.size;have hE:=hE.trans a3;clear hS;apply LW.nil;refine QW.headed hE ?_;refine Ay ?_;refine GW.tail rfl AdX (λhS=>?_);have ae:=hB;refine AM λwe a9 hB=>?_;have hs:=Ax hs ae (AJ _) a9;have hE:=hE.step a9 AdY;refine Sw ?_;exact QW.head (B,bp,bc) ⟨hE,hB,hs⟩ Dp
      ·refine Bt λB wl aa a3 hB=>?_;have ah:=hB.lt;have al:a8.heap.size≤B:=by rw[aa];exact hE.size
       first | (have a5:=Bk.nin hV (AbW aa.symm)) | skip
       replace hV:=by first | exact hV.ext a3 | exact Ab.ext' hV a3 (λ_ _ _ _ h=>h) | exact Aa.ext hV a3
       replace hD:=by first | exact hD.ext a3 | exact Ab.ext' hD a3 (λ_ _ _ _ h=>h) | exact Aa.ext hD a3
       have dk:=a3.size;have hE:=hE.trans a3;clear hS;apply LW.nil;refine QW.headed hE ?_;refine Ay ?_;refine Bd 10 λhS=>?_;have a6:=hV.lo;have a7:=hE.size;refine LW.pushSrc 0 hV (Bo (a:=i) (Ak.ext hT hE) AdV af) Ae2 a7 Aeg ?_;intro u6 wt hc hu hV;rw[A9,A9] at hV;replace hV:Bk wt a8.heap.size (λ_:Fin 1=>u6) (λ_=>L.take i++[[39,105,110]]++L.drop i):=hV;have hE:=hE.step hc a6;replace hD:=hD.chg hc a4;replace hB:=hB.chg hc a5;clear hS;apply LW.nil;refine QW.headed hE ?_;refine Ay ?_;refine Bd 11 λhS=>?_;rw[B8] at hV;refine Ar rfl rfl (An (L.take i++[39,105,110]::L.drop i) _ _ (DW.texts (hV.own 0) Aeh (λt ht=>by
        rcases AaC.1 ht with h | h
        ·exact ab t (AbD h)
        ·rcases AaH.1 h with rfl | h
         ·decide
         ·exact ab t (AbE h))) AdY) ?_
       rintro u7 wt ⟨bv,rfl,hs,a3⟩;obtain⟨bp,bc,rfl⟩:=Ab.slice hs;replace hV:=by first | exact hV.ext a3 | exact Ab.ext' hV a3 (λ_ _ _ _ h=>h) | exact Aa.ext hV a3
       replace hD:=by first | exact hD.ext a3 | exact Ab.ext' hD a3 (λ_ _ _ _ h=>h) | exact Aa.ext hD a3
       replace hB:=by first | exact hB.ext a3 | exact Ab.ext' hB a3 (λ_ _ _ _ h=>h) | exact Aa.ext hB a3
       have dl:=a3.size;have hE:=hE.trans a3;clear hS;apply LW.nil;refine QW.headed hE ?_;refine Ay ?_;refine GW.tail rfl AdX (λhS=>?_);have ae:=hB;refine AM λwe a9 hB=>?_;have hs:=Ax hs ae (AJ _) a9;have hE:=hE.step a9 AdY;refine Sw ?_;exact QW.head (B,bp,bc) ⟨hE,hB,hs⟩ Dp
     ·refine Bt λB wl aa a3 hB=>?_;have ah:=hB.lt;have al:a8.heap.size≤B:=by rw[aa];exact hE.size
      first | (have a5:=Bk.nin hV (AbW aa.symm)) | skip
      replace hV:=by first | exact hV.ext a3 | exact Ab.ext' hV a3 (λ_ _ _ _ h=>h) | exact Aa.ext hV a3
      replace hD:=by first | exact hD.ext a3 | exact Ab.ext' hD a3 (λ_ _ _ _ h=>h) | exact Aa.ext hD a3
      have dm:=a3.size;have hE:=hE.trans a3;clear hS;apply LW.nil;refine QW.headed hE ?_;refine Ay ?_;refine Bd 6 λhS=>?_;have a6:=hV.lo;have a7:=hE.size;have ad:=hD.lt;have ag:=hB.lt;refine LW.pushU 0 hV hD a7 Aek ?_;intro u5 wt hc hu hV;rw[A9,A9] at hV;replace hV:Bk wt a8.heap.size (λ_:Fin 1=>u5) (λ_=>L.take i++[[39,105,110]]):=hV;have hE:=hE.step hc a6;replace hD:=hD.chg hc a4;replace hB:=hB.chg hc a5;have a4:D∉Ac ((λ_:Fin 1=>u5) 0):=λhm=>(hu _ hm).elim a4 λh=>by omega
      have a5:B∉Ac ((λ_:Fin 1=>u5) 0):=λhm=>(hu _ hm).elim a5 λh=>by omega
      clear hS;apply LW.nil;refine QW.headed hE ?_;refine Ay ?_;refine Bd 10 λhS=>?_;have a6:=hV.lo;have a7:=hE.size;refine LW.pushSrc 0 hV (Bo (a:=i) (Ak.ext hT hE) AdV af) Ae2 a7 Aeg ?_;intro u6 wt hc hu hV;rw[A9,A9] at hV;replace hV:Bk wt a8.heap.size (λ_:Fin 1=>u6) (λ_=>L.take i++[[39,105,110]]++L.drop i):=hV;have hE:=hE.step hc a6;replace hD:=hD.chg hc a4;replace hB:=hB.chg hc a5;clear hS;apply LW.nil;refine QW.headed hE ?_;refine Ay ?_;refine Bd 11 λhS=>?_;rw[B8] at hV;refine Ar rfl rfl (An (L.take i++[39,105,110]::L.drop i) _ _ (DW.texts (hV.own 0) Aeh (λt ht=>by
       rcases AaC.1 ht with h | h
       ·exact ab t (AbD h)
       ·rcases AaH.1 h with rfl | h
        ·decide
        ·exact ab t (AbE h))) AdY) ?_
      rintro u7 wt ⟨bv,rfl,hs,a3⟩;obtain⟨bp,bc,rfl⟩:=Ab.slice hs;replace hV:=by first | exact hV.ext a3 | exact Ab.ext' hV a3 (λ_ _ _ _ h=>h) | exact Aa.ext hV a3
      replace hD:=by first | exact hD.ext a3 | exact Ab.ext' hD a3 (λ_ _ _ _ h=>h) | exact Aa.ext hD a3
      replace hB:=by first | exact hB.ext a3 | exact Ab.ext' hB a3 (λ_ _ _ _ h=>h) | exact Aa.ext hB a3
      have dn:=a3.size;have hE:=hE.trans a3;clear hS;apply LW.nil;refine QW.headed hE ?_;refine Ay ?_;refine GW.tail rfl AdX (λhS=>?_);have ae:=hB;refine AM λwe a9 hB=>?_;have hs:=Ax hs ae (AJ _) a9;have hE:=hE.step a9 AdY;refine Sw ?_;exact QW.head (B,bp,bc) ⟨hE,hB,hs⟩ Dp
    ·refine Bt λB wl aa a3 hB=>?_;have ah:=hB.lt;have al:a8.heap.size≤B:=by rw[aa];exact hE.size
     first | (have a5:=Bk.nin hV (AbW aa.symm)) | skip
     replace hV:=by first | exact hV.ext a3 | exact Ab.ext' hV a3 (λ_ _ _ _ h=>h) | exact Aa.ext hV a3
     replace hD:=by first | exact hD.ext a3 | exact Ab.ext' hD a3 (λ_ _ _ _ h=>h) | exact Aa.ext hD a3
     have dp:=a3.size;have hE:=hE.trans a3;clear hS;apply LW.nil;refine QW.headed hE ?_;refine Ay ?_;refine Bd 4 λhS=>?_;have a6:=hV.lo;have a7:=hE.size;have ad:=hD.lt;have ag:=hB.lt;refine LW.pushSrc 0 hV (C6 (a:=i) (Ak.ext hT hE) AdV) Aey a7 Ael ?_;intro u4 wt hc hu hV;rw[A9,A9] at hV;replace hV:Bk wt a8.heap.size (λ_:Fin 1=>u4) (λ_=>L.take i):=hV;have hE:=hE.step hc a6;replace hD:=hD.chg hc a4;replace hB:=hB.chg hc a5;have a4:D∉Ac ((λ_:Fin 1=>u4) 0):=λhm=>(hu _ hm).elim a4 λh=>by omega
     have a5:B∉Ac ((λ_:Fin 1=>u4) 0):=λhm=>(hu _ hm).elim a5 λh=>by omega
     clear hS;apply LW.nil;refine QW.headed hE ?_;refine Ay ?_;refine Bd 6 λhS=>?_;have a6:=hV.lo;have a7:=hE.size;have ad:=hD.lt;have ag:=hB.lt;refine LW.pushU 0 hV hD a7 Aek ?_;intro u5 wt hc hu hV;rw[A9,A9] at hV;replace hV:Bk wt a8.heap.size (λ_:Fin 1=>u5) (λ_=>L.take i++[[39,105,110]]):=hV;have hE:=hE.step hc a6;replace hD:=hD.chg hc a4;replace hB:=hB.chg hc a5;have a4:D∉Ac ((λ_:Fin 1=>u5) 0):=λhm=>(hu _ hm).elim a4 λh=>by omega
     have a5:B∉Ac ((λ_:Fin 1=>u5) 0):=λhm=>(hu _ hm).elim a5 λh=>by omega
     clear hS;apply LW.nil;refine QW.headed hE ?_;refine Ay ?_;refine Bd 10 λhS=>?_;have a6:=hV.lo;have a7:=hE.size;refine LW.pushSrc 0 hV (Bo (a:=i) (Ak.ext hT hE) AdV af) Ae2 a7 Aeg ?_;intro u6 wt hc hu hV;rw[A9,A9] at hV;replace hV:Bk wt a8.heap.size (λ_:Fin 1=>u6) (λ_=>L.take i++[[39,105,110]]++L.drop i):=hV;have hE:=hE.step hc a6;replace hD:=hD.chg hc a4;replace hB:=hB.chg hc a5;clear hS;apply LW.nil;refine QW.headed hE ?_;refine Ay ?_;refine Bd 11 λhS=>?_;rw[B8] at hV;refine Ar rfl rfl (An (L.take i++[39,105,110]::L.drop i) _ _ (DW.texts (hV.own 0) Aeh (λt ht=>by
      rcases AaC.1 ht with h | h
      ·exact ab t (AbD h)
      ·rcases AaH.1 h with rfl | h
       ·decide
       ·exact ab t (AbE h))) AdY) ?_
     rintro u7 wt ⟨bv,rfl,hs,a3⟩;obtain⟨bp,bc,rfl⟩:=Ab.slice hs;replace hV:=by first | exact hV.ext a3 | exact Ab.ext' hV a3 (λ_ _ _ _ h=>h) | exact Aa.ext hV a3
     replace hD:=by first | exact hD.ext a3 | exact Ab.ext' hD a3 (λ_ _ _ _ h=>h) | exact Aa.ext hD a3
     replace hB:=by first | exact hB.ext a3 | exact Ab.ext' hB a3 (λ_ _ _ _ h=>h) | exact Aa.ext hB a3
     have dq:=a3.size;have hE:=hE.trans a3;clear hS;apply LW.nil;refine QW.headed hE ?_;refine Ay ?_;refine GW.tail rfl AdX (λhS=>?_);have ae:=hB;refine AM λwe a9 hB=>?_;have hs:=Ax hs ae (AJ _) a9;have hE:=hE.step a9 AdY;refine Sw ?_;exact QW.head (B,bp,bc) ⟨hE,hB,hs⟩ Dp
   ·refine Bt λB wl aa a3 hB=>?_;have ah:=hB.lt;have al:a8.heap.size≤B:=by rw[aa];exact hE.size
    first | (have a5:=Bk.nin hV (AbW aa.symm)) | skip
    replace hD:=by first | exact hD.ext a3 | exact Ab.ext' hD a3 (λ_ _ _ _ h=>h) | exact Aa.ext hD a3
    have dr:=a3.size;have hE:=hE.trans a3;clear hS;apply LW.nil;refine QW.headed hE ?_;refine Ay ?_;refine Bd 0 λhS=>?_
    (apply LW.buildSlice0;exact rfl;exact rfl;exact rfl;exact rfl;intro A1 wt az a3 b0)
    have hV:=Bk.one (DW.empty (lo:=a8.heap.size) b0 AeD);have hE:=hE.trans a3;have a4:D∉Ac ((λ_:Fin 1=>Value.slice (some ⟨A1,0,none⟩) 0 0) 0):=by have:=hD.lt;show D∉[A1];simp;omega
    have a5:B∉Ac ((λ_:Fin 1=>Value.slice (some ⟨A1,0,none⟩) 0 0) 0):=by have:=hB.lt;show B∉[A1];simp;omega
    replace hD:=hD.ext a3;replace hB:=hB.ext a3;clear hS;apply LW.nil;refine QW.headed hE ?_;refine Ay ?_;refine Bd 4 λhS=>?_;have a6:=hV.lo;have a7:=hE.size;have ad:=hD.lt;have ag:=hB.lt;refine LW.pushSrc 0 hV (C6 (a:=i) (Ak.ext hT hE) AdV) Aey a7 Ael ?_;intro u4 wt hc hu hV;rw[A9,A9] at hV;replace hV:Bk wt a8.heap.size (λ_:Fin 1=>u4) (λ_=>L.take i):=hV;have hE:=hE.step hc a6;replace hD:=hD.chg hc a4;replace hB:=hB.chg hc a5;have a4:D∉Ac ((λ_:Fin 1=>u4) 0):=λhm=>(hu _ hm).elim a4 λh=>by omega
    have a5:B∉Ac ((λ_:Fin 1=>u4) 0):=λhm=>(hu _ hm).elim a5 λh=>by omega
    clear hS;apply LW.nil;refine QW.headed hE ?_;refine Ay ?_;refine Bd 6 λhS=>?_;have a6:=hV.lo;have a7:=hE.size;have ad:=hD.lt;have ag:=hB.lt;refine LW.pushU 0 hV hD a7 Aek ?_;intro u5 wt hc hu hV;rw[A9,A9] at hV;replace hV:Bk wt a8.heap.size (λ_:Fin 1=>u5) (λ_=>L.take i++[[39,105,110]]):=hV;have hE:=hE.step hc a6;replace hD:=hD.chg hc a4;replace hB:=hB.chg hc a5;have a4:D∉Ac ((λ_:Fin 1=>u5) 0):=λhm=>(hu _ hm).elim a4 λh=>by omega
    have a5:B∉Ac ((λ_:Fin 1=>u5) 0):=λhm=>(hu _ hm).elim a5 λh=>by omega
    clear hS;apply LW.nil;refine QW.headed hE ?_;refine Ay ?_;refine Bd 10 λhS=>?_;have a6:=hV.lo;have a7:=hE.size;refine LW.pushSrc 0 hV (Bo (a:=i) (Ak.ext hT hE) AdV af) Ae2 a7 Aeg ?_;intro u6 wt hc hu hV;rw[A9,A9] at hV;replace hV:Bk wt a8.heap.size (λ_:Fin 1=>u6) (λ_=>L.take i++[[39,105,110]]++L.drop i):=hV;have hE:=hE.step hc a6;replace hD:=hD.chg hc a4;replace hB:=hB.chg hc a5;clear hS;apply LW.nil;refine QW.headed hE ?_;refine Ay ?_;refine Bd 11 λhS=>?_;rw[B8] at hV;refine Ar rfl rfl (An (L.take i++[39,105,110]::L.drop i) _ _ (DW.texts (hV.own 0) Aeh (λt ht=>by
     rcases AaC.1 ht with h | h
     ·exact ab t (AbD h)
     ·rcases AaH.1 h with rfl | h
      ·decide
      ·exact ab t (AbE h))) AdY) ?_
    rintro u7 wt ⟨bv,rfl,hs,a3⟩;obtain⟨bp,bc,rfl⟩:=Ab.slice hs;replace hV:=by first | exact hV.ext a3 | exact Ab.ext' hV a3 (λ_ _ _ _ h=>h) | exact Aa.ext hV a3
    replace hD:=by first | exact hD.ext a3 | exact Ab.ext' hD a3 (λ_ _ _ _ h=>h) | exact Aa.ext hD a3
    replace hB:=by first | exact hB.ext a3 | exact Ab.ext' hB a3 (λ_ _ _ _ h=>h) | exact Aa.ext hB a3
    have ds:=a3.size;have hE:=hE.trans a3;clear hS;apply LW.nil;refine QW.headed hE ?_;refine Ay ?_;refine GW.tail rfl AdX (λhS=>?_);have ae:=hB;refine AM λwe a9 hB=>?_;have hs:=Ax hs ae (AJ _) a9;have hE:=hE.step a9 AdY;refine Sw ?_;exact QW.head (B,bp,bc) ⟨hE,hB,hs⟩ Dp
  ·refine Bt λB wl aa a3 hB=>?_;have ah:=hB.lt;have al:a8.heap.size≤B:=by rw[aa];exact hE.size
   first | (have a5:=Bk.nin hV (AbW aa.symm)) | skip
   have dt:=a3.size;have hE:=hE.trans a3;clear hS;apply LW.nil;refine QW.headed hE ?_;refine Ay ?_;refine GW.two 0 5 AdX rfl rfl rfl rfl rfl rfl (λhS=>?_) (λhS=>?_)
   ·(apply LW.buildSlice0;exact rfl;exact rfl;exact rfl;exact rfl;intro A1 wt az a3 b0)
    have hV:=Bk.one (DW.empty (lo:=a8.heap.size) b0 AeD);have hE:=hE.trans a3;have a5:B∉Ac ((λ_:Fin 1=>Value.slice (some ⟨A1,0,none⟩) 0 0) 0):=by have:=hB.lt;show B∉[A1];simp;omega
    replace hB:=hB.ext a3;clear hS;apply LW.nil;refine QW.headed hE ?_;refine Ay ?_;refine GW.two 4 5 AdX rfl rfl rfl rfl rfl rfl (λhS=>?_) (λhS=>?_)
    ·have a6:=hV.lo;have a7:=hE.size;have ag:=hB.lt;refine LW.pushSrc 0 hV (C6 (a:=i) (Ak.ext hT hE) AdV) Aey a7 Ael ?_;intro u4 wt hc hu hV;rw[A9,A9] at hV;replace hV:Bk wt a8.heap.size (λ_:Fin 1=>u4) (λ_=>L.take i):=hV;have hE:=hE.step hc a6;replace hB:=hB.chg hc a5;have a5:B∉Ac ((λ_:Fin 1=>u4) 0):=λhm=>(hu _ hm).elim a5 λh=>by omega
     clear hS;apply LW.nil;refine QW.headed hE ?_;refine Ay ?_;refine Bd 5 λhS=>?_;refine CF λD wl ai a3 hD=>?_;have ak:=hD.lt;have b4:a8.heap.size≤D:=by rw[ai];exact hE.size
     first | (have a4:=Bk.nin hV (AbW ai.symm)) | skip
     replace hV:=by first | exact hV.ext a3 | exact Ab.ext' hV a3 (λ_ _ _ _ h=>h) | exact Aa.ext hV a3
     replace hB:=by first | exact hB.ext a3 | exact Ab.ext' hB a3 (λ_ _ _ _ h=>h) | exact Aa.ext hB a3
     have du:=a3.size;have hE:=hE.trans a3;clear hS;apply LW.nil;refine QW.headed hE ?_;refine Ay ?_;refine Bd 6 λhS=>?_;have a6:=hV.lo;have a7:=hE.size;have ag:=hB.lt;have ad:=hD.lt;refine LW.pushU 0 hV hD a7 Aek ?_;intro u5 wt hc hu hV;rw[A9,A9] at hV;replace hV:Bk wt a8.heap.size (λ_:Fin 1=>u5) (λ_=>L.take i++[[39,105,110]]):=hV;have hE:=hE.step hc a6;replace hB:=hB.chg hc a5;replace hD:=hD.chg hc a4;have a5:B∉Ac ((λ_:Fin 1=>u5) 0):=λhm=>(hu _ hm).elim a5 λh=>by omega
     have a4:D∉Ac ((λ_:Fin 1=>u5) 0):=λhm=>(hu _ hm).elim a4 λh=>by omega
     clear hS;apply LW.nil;refine QW.headed hE ?_;refine Ay ?_;refine Bd 10 λhS=>?_;have a6:=hV.lo;have a7:=hE.size;refine LW.pushSrc 0 hV (Bo (a:=i) (Ak.ext hT hE) AdV af) Ae2 a7 Aeg ?_;intro u6 wt hc hu hV;rw[A9,A9] at hV;replace hV:Bk wt a8.heap.size (λ_:Fin 1=>u6) (λ_=>L.take i++[[39,105,110]]++L.drop i):=hV;have hE:=hE.step hc a6;replace hB:=hB.chg hc a5;replace hD:=hD.chg hc a4;clear hS;apply LW.nil;refine QW.headed hE ?_;refine Ay ?_;refine Bd 11 λhS=>?_;rw[B8] at hV;refine Ar rfl rfl (An (L.take i++[39,105,110]::L.drop i) _ _ (DW.texts (hV.own 0) Aeh (λt ht=>by
      rcases AaC.1 ht with h | h
      ·exact ab t (AbD h)
      ·rcases AaH.1 h with rfl | h
       ·decide
       ·exact ab t (AbE h))) AdY) ?_
     rintro u7 wt ⟨bv,rfl,hs,a3⟩;obtain⟨bp,bc,rfl⟩:=Ab.slice hs;replace hV:=by first | exact hV.ext a3 | exact Ab.ext' hV a3 (λ_ _ _ _ h=>h) | exact Aa.ext hV a3
     replace hB:=by first | exact hB.ext a3 | exact Ab.ext' hB a3 (λ_ _ _ _ h=>h) | exact Aa.ext hB a3
     replace hD:=by first | exact hD.ext a3 | exact Ab.ext' hD a3 (λ_ _ _ _ h=>h) | exact Aa.ext hD a3
     have dv:=a3.size;have hE:=hE.trans a3;clear hS;apply LW.nil;refine QW.headed hE ?_;refine Ay ?_;refine GW.tail rfl AdX (λhS=>?_);have ae:=hB;refine AM λwe a9 hB=>?_;have hs:=Ax hs ae (AJ _) a9;have hE:=hE.step a9 AdY;refine Sw ?_;exact QW.head (B,bp,bc) ⟨hE,hB,hs⟩ Dp
    ·refine CF λD wl ai a3 hD=>?_;have ak:=hD.lt;have b4:a8.heap.size≤D:=by rw[ai];exact hE.size
     first | (have a4:=Bk.nin hV (AbW ai.symm)) | skip
     replace hV:=by first | exact hV.ext a3 | exact Ab.ext' hV a3 (λ_ _ _ _ h=>h) | exact Aa.ext hV a3
     replace hB:=by first | exact hB.ext a3 | exact Ab.ext' hB a3 (λ_ _ _ _ h=>h) | exact Aa.ext hB a3
     have dw:=a3.size;have hE:=hE.trans a3;clear hS;apply LW.nil;refine QW.headed hE ?_;refine Ay ?_;refine Bd 4 λhS=>?_;have a6:=hV.lo;have a7:=hE.size;have ag:=hB.lt;have ad:=hD.lt;refine LW.pushSrc 0 hV (C6 (a:=i) (Ak.ext hT hE) AdV) Aey a7 Ael ?_;intro u4 wt hc hu hV;rw[A9,A9] at hV;replace hV:Bk wt a8.heap.size (λ_:Fin 1=>u4) (λ_=>L.take i):=hV;have hE:=hE.step hc a6;replace hB:=hB.chg hc a5;replace hD:=hD.chg hc a4;have a5:B∉Ac ((λ_:Fin 1=>u4) 0):=λhm=>(hu _ hm).elim a5 λh=>by omega
     have a4:D∉Ac ((λ_:Fin 1=>u4) 0):=λhm=>(hu _ hm).elim a4 λh=>by omega
     clear hS;apply LW.nil;refine QW.headed hE ?_;refine Ay ?_;refine Bd 6 λhS=>?_;have a6:=hV.lo;have a7:=hE.size;have ag:=hB.lt;have ad:=hD.lt;refine LW.pushU 0 hV hD a7 Aek ?_;intro u5 wt hc hu hV;rw[A9,A9] at hV;replace hV:Bk wt a8.heap.size (λ_:Fin 1=>u5) (λ_=>L.take i++[[39,105,110]]):=hV;have hE:=hE.step hc a6;replace hB:=hB.chg hc a5;replace hD:=hD.chg hc a4;have a5:B∉Ac ((λ_:Fin 1=>u5) 0):=λhm=>(hu _ hm).elim a5 λh=>by omega
     have a4:D∉Ac ((λ_:Fin 1=>u5) 0):=λhm=>(hu _ hm).elim a4 λh=>by omega
     clear hS;apply LW.nil;refine QW.headed hE ?_;refine Ay ?_;refine Bd 10 λhS=>?_;have a6:=hV.lo;have a7:=hE.size;refine LW.pushSrc 0 hV (Bo (a:=i) (Ak.ext hT hE) AdV af) Ae2 a7 Aeg ?_;intro u6 wt hc hu hV;rw[A9,A9] at hV;replace hV:Bk wt a8.heap.size (λ_:Fin 1=>u6) (λ_=>L.take i++[[39,105,110]]++L.drop i):=hV;have hE:=hE.step hc a6;replace hB:=hB.chg hc a5;replace hD:=hD.chg hc a4;clear hS;apply LW.nil;refine QW.headed hE ?_;refine Ay ?_;refine Bd 11 λhS=>?_;rw[B8] at hV;refine Ar rfl rfl (An (L.take i++[39,105,110]::L.drop i) _ _ (DW.texts (hV.own 0) Aeh (λt ht=>by
      rcases AaC.1 ht with h | h
      ·exact ab t (AbD h)
      ·rcases AaH.1 h with rfl | h
       ·decide
       ·exact ab t (AbE h))) AdY) ?_
     rintro u7 wt ⟨bv,rfl,hs,a3⟩;obtain⟨bp,bc,rfl⟩:=Ab.slice hs;replace hV:=by first | exact hV.ext a3 | exact Ab.ext' hV a3 (λ_ _ _ _ h=>h) | exact Aa.ext hV a3
     replace hB:=by first | exact hB.ext a3 | exact Ab.ext' hB a3 (λ_ _ _ _ h=>h) | exact Aa.ext hB a3
     replace hD:=by first | exact hD.ext a3 | exact Ab.ext' hD a3 (λ_ _ _ _ h=>h) | exact Aa.ext hD a3
     have dx:=a3.size;have hE:=hE.trans a3;clear hS;apply LW.nil;refine QW.headed hE ?_;refine Ay ?_;refine GW.tail rfl AdX (λhS=>?_);have ae:=hB;refine AM λwe a9 hB=>?_;have hs:=Ax hs ae (AJ _) a9;have hE:=hE.step a9 AdY;refine Sw ?_;exact QW.head (B,bp,bc) ⟨hE,hB,hs⟩ Dp
   ·refine CF λD wl ai a3 hD=>?_;have ak:=hD.lt;have b4:a8.heap.size≤D:=by rw[ai];exact hE.size
    first | (have a4:=Bk.nin hV (AbW ai.symm)) | skip
    replace hB:=by first | exact hB.ext a3 | exact Ab.ext' hB a3 (λ_ _ _ _ h=>h) | exact Aa.ext hB a3
    have dy:=a3.size;have hE:=hE.trans a3;clear hS;apply LW.nil;refine QW.headed hE ?_;refine Ay ?_;refine Bd 0 λhS=>?_
    (apply LW.buildSlice0;exact rfl;exact rfl;exact rfl;exact rfl;intro A1 wt az a3 b0)
    have hV:=Bk.one (DW.empty (lo:=a8.heap.size) b0 AeD);have hE:=hE.trans a3;have a5:B∉Ac ((λ_:Fin 1=>Value.slice (some ⟨A1,0,none⟩) 0 0) 0):=by have:=hB.lt;show B∉[A1];simp;omega
    have a4:D∉Ac ((λ_:Fin 1=>Value.slice (some ⟨A1,0,none⟩) 0 0) 0):=by have:=hD.lt;show D∉[A1];simp;omega
    replace hB:=hB.ext a3;replace hD:=hD.ext a3;clear hS;apply LW.nil;refine QW.headed hE ?_;refine Ay ?_;refine Bd 4 λhS=>?_;have a6:=hV.lo;have a7:=hE.size;have ag:=hB.lt;have ad:=hD.lt;refine LW.pushSrc 0 hV (C6 (a:=i) (Ak.ext hT hE) AdV) Aey a7 Ael ?_;intro u4 wt hc hu hV;rw[A9,A9] at hV;replace hV:Bk wt a8.heap.size (λ_:Fin 1=>u4) (λ_=>L.take i):=hV;have hE:=hE.step hc a6;replace hB:=hB.chg hc a5;replace hD:=hD.chg hc a4;have a5:B∉Ac ((λ_:Fin 1=>u4) 0):=λhm=>(hu _ hm).elim a5 λh=>by omega
    have a4:D∉Ac ((λ_:Fin 1=>u4) 0):=λhm=>(hu _ hm).elim a4 λh=>by omega
    clear hS;apply LW.nil;refine QW.headed hE ?_;refine Ay ?_;refine Bd 6 λhS=>?_;have a6:=hV.lo;have a7:=hE.size;have ag:=hB.lt;have ad:=hD.lt;refine LW.pushU 0 hV hD a7 Aek ?_;intro u5 wt hc hu hV;rw[A9,A9] at hV;replace hV:Bk wt a8.heap.size (λ_:Fin 1=>u5) (λ_=>L.take i++[[39,105,110]]):=hV;have hE:=hE.step hc a6;replace hB:=hB.chg hc a5;replace hD:=hD.chg hc a4;have a5:B∉Ac ((λ_:Fin 1=>u5) 0):=λhm=>(hu _ hm).elim a5 λh=>by omega
    have a4:D∉Ac ((λ_:Fin 1=>u5) 0):=λhm=>(hu _ hm).elim a4 λh=>by omega
    clear hS;apply LW.nil;refine QW.headed hE ?_;refine Ay ?_;refine Bd 10 λhS=>?_;have a6:=hV.lo;have a7:=hE.size;refine LW.pushSrc 0 hV (Bo (a:=i) (Ak.ext hT hE) AdV af) Ae2 a7 Aeg ?_;intro u6 wt hc hu hV;rw[A9,A9] at hV;replace hV:Bk wt a8.heap.size (λ_:Fin 1=>u6) (λ_=>L.take i++[[39,105,110]]++L.drop i):=hV;have hE:=hE.step hc a6;replace hB:=hB.chg hc a5;replace hD:=hD.chg hc a4;clear hS;apply LW.nil;refine QW.headed hE ?_;refine Ay ?_;refine Bd 11 λhS=>?_;rw[B8] at hV;refine Ar rfl rfl (An (L.take i++[39,105,110]::L.drop i) _ _ (DW.texts (hV.own 0) Aeh (λt ht=>by
     rcases AaC.1 ht with h | h
     ·exact ab t (AbD h)
     ·rcases AaH.1 h with rfl | h
      ·decide
      ·exact ab t (AbE h))) AdY) ?_
    rintro u7 wt ⟨bv,rfl,hs,a3⟩;obtain⟨bp,bc,rfl⟩:=Ab.slice hs;replace hV:=by first | exact hV.ext a3 | exact Ab.ext' hV a3 (λ_ _ _ _ h=>h) | exact Aa.ext hV a3
    replace hB:=by first | exact hB.ext a3 | exact Ab.ext' hB a3 (λ_ _ _ _ h=>h) | exact Aa.ext hB a3
    replace hD:=by first | exact hD.ext a3 | exact Ab.ext' hD a3 (λ_ _ _ _ h=>h) | exact Aa.ext hD a3
    have dz:=a3.size;have hE:=hE.trans a3;clear hS;apply LW.nil;refine QW.headed hE ?_;refine Ay ?_;refine GW.tail rfl AdX (λhS=>?_);have ae:=hB;refine AM λwe a9 hB=>?_;have hs:=Ax hs ae (AJ _) a9;have hE:=hE.step a9 AdY;refine Sw ?_;exact QW.head (B,bp,bc) ⟨hE,hB,hs⟩ Dp
 rintro⟨B,bp,bc⟩ em ⟨aq,e0,hb⟩;dsimp only at e0 hb;show CW _ _ _ _ _ [(3,.bool sum),(9,.int .i64 L.length),(12,.int .i64 i),(13,.int .i64 j),(15,.pointer (some ⟨O,0,none⟩)),(16,.pointer (some ⟨A,0,none⟩)),(17,.pointer (some ⟨B,0,none⟩))] _;replace ay:=ay.ext aq;replace bg:=bg.ext aq;replace ho:=Aa.ext ho aq;replace ha:=Aa.ext ha aq;have au:=b3.trans aq;have t:=E9 (A4 L) (A4 (L++[fm])) (A4 (L.take i++[39,105,110]::L.drop i)) _ _ _ em (g.ext au) ho ha hb;rw[rm] at t;clear hT b3 aq ho ha hb rm;refine Sw ?_;refine Ar rfl rfl t ?_;rintro u f9 ⟨mv,cv,rfl,hm,hC,c0⟩;obtain⟨cp,cc,rfl⟩:=DZ hC;obtain⟨mp,mc,rfl⟩:=Ab.slice hm;refine Sw ?_;refine Bt λM fa fb bh hM=>?_;have en:=bh.size;refine Sw ?_;refine AM λeo c1 hM=>?_;replace hM:Blk eo M [.slice mp 1 mc] 24:=hM;have an:=bh.step c1 AdY;have b5:=(au.trans c0).trans an;replace hm:=Aa.ext hm an;clear ay bg e0 t hC c0 bh c1 an au;refine Sw ?_;refine Ar rfl rfl (I5 0 _) ?_;rintro u bm ⟨rfl,b1⟩;replace hM:=hM.ext b1;replace hm:=Aa.ext hm b1;have b6:=b5.trans b1;obtain⟨a0,q0,k0,rfl,-,-,hR,hc⟩:=Aa.at (i:=0) hm rfl;have c6:=hc 2 _ rfl;have ep:(W.map λt=>[t]).length=L.length+2:=by rw[Abr,ca]
 replace c6:bm.cell? ((a0.add (((0:Nat):Int).toNat*3)).add 2)=some (.slice q0 (L.length+2) k0):=by rw[←ep];exact c6
 clear b1 b5 hm hc;refine Sw ?_;refine AB (λh2=>?_) λh2=>?_
 ·exfalso;simp at h2
 clear h2;apply CW.skip;apply QW.then_n;apply CW.seq;apply CW.region;refine Sl ?_;apply LW.nil;apply QW.then_n;have er:=Oz (sum:=sum) (a:=0) (b:=PZ i j) AdV (by unfold PZ;split<;>omega);have e1:PZ i j≤100:=by unfold PZ;split<;>omega
 refine CW.seq_cut (ι:=Unit) (λ_ w'=>w'=bm) (λ_=>[(21,.int .i64 ((PZ i j:Nat):Int)),(3,.bool sum),(9,.int .i64 L.length),(12,.int .i64 i),(13,.int .i64 j),(18,.pointer (some ⟨M,0,none⟩)),(22,.int .i64 0)]) ?_ ?_
 ·refine Sw ?_;refine AB (λh3=>?_) λh3=>?_
  ·have h3:i≤j:=by simp at h3;omega
   refine Sw ?_;exact QW.head () rfl (Al.cons (by rw[PZ,if_pos h3];rfl) (Al.cons rfl (Al.cons rfl (Al.cons rfl (Al.cons rfl (Al.cons rfl (Al.cons rfl (Al.nil))))))))
  ·have h3:¬i≤j:=by simp at h3;omega
   refine Sw ?_;exact QW.head () rfl (Al.cons (by rw[PZ,if_neg h3];rfl) (Al.cons rfl (Al.cons rfl (Al.cons rfl (Al.cons rfl (Al.cons rfl (Al.cons rfl (Al.nil))))))))
 rintro⟨⟩ bm rfl;refine CW.seq_cut (ι:=Unit) (λ_ w'=>w'=bm) (λ_=>[(22,.int .i64 ((if i=0 then 1 else 0:Nat):Int)),(21,.int .i64 ((PZ i j:Nat):Int)),(3,.bool sum),(9,.int .i64 L.length),(13,.int .i64 j),(18,.pointer (some ⟨M,0,none⟩))]) ?_ ?_
 ·refine Sw ?_;refine AB (λh3=>?_) λh3=>?_
  ·have h3:i=0:=by simp at h3;omega
   refine Sw ?_;exact QW.head () rfl (Al.cons (by rw[if_pos h3];rfl) (Al.cons rfl (Al.cons rfl (Al.cons rfl (Al.cons rfl (Al.cons rfl (Al.nil)))))))
  ·have h3:¬i=0:=by simp at h3;omega
   refine Sw ?_;exact QW.head () rfl (Al.cons (by rw[if_neg h3];rfl) (Al.cons rfl (Al.cons rfl (Al.cons rfl (Al.cons rfl (Al.cons rfl (Al.nil)))))))
 rintro⟨⟩ bm rfl;have c7:L0 i j=if j=0 then PZ i j else(if i=0 then 1 else 0):=rfl;obtain⟨fr,c8⟩:∃fr:Nat,fr=if i=0 then 1 else 0:=⟨_,rfl⟩;obtain⟨to,c9⟩:∃to,to=PZ i j:=⟨_,rfl⟩;have es:fr≤1:=by rw[c8];split<;>omega
 rw[←c9] at c7 e1;rw[←c8] at c7;rw[c7,←c9] at b9;show CW _ _ _ _ _ [(22,.int .i64 ((if i=0 then 1 else 0:Nat):Int)),(21,.int .i64 ((PZ i j:Nat):Int)),(3,.bool sum),(9,.int .i64 (L.length:Int)),(13,.int .i64 (j:Int)),(18,.pointer (some ⟨M,0,none⟩))] _;rw[←c8,←c9];have et:=Lib.itoa_length_le ((to:Int)+1) AdV AdV;have eu:=Lib.itoa_length_le ((fr:Int)+1) AdV AdV;clear c7 c8 c9 er;apply CW.seq;apply CW.region;refine Sl ?_;refine Ar rfl rfl (AK ((to:Int)+1) AdV AdV _) ?_;rintro u fc ⟨rfl,bi⟩;refine Sl ?_;apply LW.nil;apply QW.then_n;refine CW.seq_cut (ι:=Unit) (λ_ w'=>Ah bm w') (λ_=>[(23,Av wt),(9,.int .i64 L.length),(18,.pointer (some ⟨M,0,none⟩))]) ?_ ?_
 ·cases sum with
  | false=>
   refine Sw ?_
   exact QW.head () bi (Al.cons (by rw[b9,O0];rfl) (Al.cons rfl (Al.cons rfl (Al.nil))))
  | true=>
   refine Sw ?_;refine Ar rfl rfl (AK ((fr:Int)+1) AdV AdV _) ?_;rintro u ce ⟨rfl,ao⟩;refine Sw ?_;refine Ar rfl rfl (AK ((to:Int)+1) AdV AdV _) ?_;rintro u e2 ⟨rfl,cf⟩;have aw:=(bi.trans ao).trans cf;refine Sw ?_;refine AB (λh3=>?_) λh3=>?_
   ·have h3:j=0:=by simp at h3;omega
    refine Sw ?_;refine Ar rfl rfl (AK ((to:Int)+1) AdV AdV _) ?_;rintro u ew ⟨rfl,bj⟩;refine Sw ?_;refine Ar rfl rfl (AK ((to:Int)+1) AdV AdV _) ?_;rintro u fd ⟨rfl,cg⟩;refine Sw ?_;exact QW.head () ((aw.trans bj).trans cg) (Al.cons (by rw[b9,if_pos h3,O1];rfl) (Al.cons rfl (Al.cons rfl (Al.nil))))
   ·have h3:¬j=0:=by simp at h3;omega
    refine Sw ?_;exact QW.head () aw (Al.cons (by rw[b9,if_neg h3,O1];rfl) (Al.cons rfl (Al.cons rfl (Al.nil))))
 rintro⟨⟩ ce ao;show CW _ _ _ _ _ [(23,Av wt),(9,.int .i64 (L.length:Int)),(18,.pointer (some ⟨M,0,none⟩))] _;replace hM:=hM.ext ao;replace hR:=Bn.ext hR ao;replace c6:=AC ao c6;have b7:=b6.trans ao;replace hR:Cy ce (.slice q0 (W.map λt=>[t]).length k0) (W.map λt=>[t]):=hR;clear bi ao b6 e9 ci ab af b9 bn bk et eu e1 es;refine Sw ?_;refine CW.loop (ι:=Nat) (λr w'=>r≤L.length+2∧w'=ce) (λr=>[(23,Av wt),(9,.int .i64 L.length),(18,.pointer (some ⟨M,0,none⟩)),(24,.int .i64 ((S7 W wt r:Nat):Int)),(25,.int .i64 r)]) (λr=>L.length+2 - r) 0 ⟨Acp _,rfl⟩ EP ?_;rintro r e2 ⟨fe,rfl⟩;have ff:=YV W wt r;refine Sw ?_;refine AB (λh3=>?_) λh3=>?_
 ·have h3:r<L.length+2:=by simp at h3;omega
  obtain⟨t,ht⟩:∃t,W[r]?=some t:=⟨_,B7 AdV⟩;obtain⟨a1,q1,k1,rfl,-,ex,e3⟩:=Bn.at (i:=r) hR (show(W.map λt=>[t])[r]?=some [t] by rw[AbH,ht];rfl);obtain⟨a2,rfl,-,-,cl⟩:=Ak.at (i:=0) ex rfl;replace e3:e2.cell? (a1.add (((r:Nat):Int).toNat*1))=some (.slice (some a2) 1 k1):=e3;have ey:W.getD r []=t:=by rw[AaE,ht];rfl
  have c2:=UY W wt r;rw[ey] at c2;refine Sw ?_;refine AB (λh4=>?_) λh4=>?_
  ·have h4:t=wt:=by simpa using h4
   rw[if_pos h4] at c2;refine Sw ?_;exact QW.again (r+1) ⟨by omega,rfl⟩ (Al.cons rfl (Al.cons rfl (Al.cons rfl (Al.cons (by rw[c2];rfl) (Al.cons rfl Al.nil))))) AdV
  ·have h4:¬t=wt:=by simpa using h4
   rw[if_neg h4] at c2;refine Sw ?_;exact QW.again (r+1) ⟨by omega,rfl⟩ (Al.cons rfl (Al.cons rfl (Al.cons rfl (Al.cons (by rw[c2];rfl) (Al.cons rfl Al.nil))))) AdV
 have h3:r=L.length+2:=by simp at h3;omega
 subst h3;rw[cn];refine Sw ?_;refine Ar rfl rfl (EQ _ (g.ext b7)) ?_;rintro u ew ⟨rfl,bj⟩;refine Sw ?_;exact QW.body1 rfl rfl ⟨rfl,b7.trans bj⟩
end Go.Proofs.YtcjjcnecopnpcaaGreatDoor
