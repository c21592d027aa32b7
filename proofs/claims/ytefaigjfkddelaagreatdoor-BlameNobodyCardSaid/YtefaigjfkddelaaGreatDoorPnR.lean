/-
  Joined by program out of the texts MovZ MvbP Mvb1 LinP Lin1 LinQ TurP Shp1 Shp2.
-/
import Derived.Test.YtefaigjfkddelaaGreatDoorPnI
import Derived.Test.YtefaigjfkddelaaGreatDoorPnQ
import Derived.Test.YtefaigjfkddelaaGreatDoorPnJ
import Derived.Test.YtefaigjfkddelaaGreatDoorPnK
import Derived.Test.YtefaigjfkddelaaGreatDoorPnH
import Derived.Test.YtefaigjfkddelaaGreatDoorPnL
namespace Go.Proofs.YtefaigjfkddelaaGreatDoor
open Tryz
open Go Go.E
theorem XU:Bt AaY=true:=MR (t:=.leaf BB) AfO
theorem NX{own:List UInt8}{ss:List BP}{s:List UInt8}(hss:∀x∈ss,x.May)(h:Bt s=true):Bt (B3 own ss s)=true:=by
 unfold B3
 split
 ·cases hp:AH (s.drop 1) with
  | error e=>exact h
  | ok l=>
   simp only
   split
   ·exact XU
   ·rename_i a0;obtain⟨a1,a5,a6,t,hf,hn,rfl,a4⟩:=GA hp;have a2:t.need≤12:=by
     rw[a4,G9 t hf hn] at a1
     split at a1
     ·cases a1
     ·split at a1
      ·assumption
      ·cases a1
    obtain⟨e,a3⟩:=JL (own:=own) hss hf;rw[e,FT a3] at a0 ⊢;exact Ty a3 (HN (Je hss) t hf hn) (by simp at a0;omega) (by rw[HM];exact a2)
 ·exact h
noncomputable def K5(nm:List UInt8)(ss:List BP)(r:List (List UInt8)):List (List UInt8):=r.map (B3 nm ss)
noncomputable def Sk(ss:List BP)(s:Af):Af:={s with rows:=s.rows.map (K5 s.name ss)}
noncomputable def I5(ss:List BP)(b:Ag):Ag:=b.map (Sk ss)
def DN{α:Type}(f:α→α)(k:Nat)(l:List α):List α:=(l.take k).map f++l.drop k
theorem Hr{α:Type}(f:α→α)(l:List α):DN f 0 l=l:=by simp[DN]
theorem I2{α:Type}(f:α→α)(l:List α):DN f l.length l=l.map f:=by simp[DN]
theorem D6{α:Type}(f:α→α)(k:Nat)(l:List α):(DN f k l).length=l.length:=by simp[DN];omega
theorem MP{α:Type}{f:α→α}{k:Nat}{l:List α}(i:Nat):(DN f k l)[i]?=(l[i]?).map λx=>if i<k then f x else x:=by
 unfold DN;by_cases h:i<k
 ·by_cases hl:i<l.length
  ·rw[Abg Ae0,AbA,AcP h];simp[h]
  ·rw[AbK Ae0,AbK (l:=l) Aez];rfl
 ·by_cases hk:k≤l.length
  ·rw[Ace Ae0,AcH];have e:k+(i - (List.map f (List.take k l)).length)=i:=Ae0
   rw[e];simp[h]
  ·rw[AbK Ae0,AbK (l:=l) Aez];rfl
theorem I3{α:Type}{f:α→α}{k:Nat}{l:List α}{x:α}(h:l[k]?=some x):(DN f k l).set k (f x)=DN f (k+1) l:=by
 apply Ack;intro i;rw[AbS,MP,D6];have hk:=(Aav.1 h).1;by_cases e:k=i
 ·subst e;rw[if_pos rfl,if_pos hk,MP,h];simp
 ·rw[if_neg e,MP];have e1:i<k+1↔i<k:=Aez
  simp only[e1]
theorem UL{α:Type}{l:List α}{k:Nat}{x y:α}(h:l[k]?=some x):(l.set k y)[k]?=some y:=by
 have hk:=(Aav.1 h).1;rw[AbS,if_pos rfl,if_pos hk]
theorem NW{α:Type}{l:List α}{k:Nat}{x:α}{f:α→α}(h:l[k]?=some x):l.modify k f=l.set k (f x):=by
 apply Ack;intro i;have hk:=(Aav.1 h).1;rw[AcA,AbS];by_cases e:k=i
 ·subst e;have hx:=(Aav.1 h).2;simp[hk,hx]
 ·simp[e]
noncomputable def ZR(ss:List BP)(b:Ag)(i:Nat)(s:Af)(r:Nat)(row:List (List UInt8))(k:Nat):Ag:=(DN (Sk ss) i b).set i {s with rows:=(DN (K5 s.name ss) r s.rows).set r (DN (B3 s.name ss) k row)}
noncomputable def Zr(ss:List BP)(b:Ag)(i:Nat)(s:Af)(r:Nat):Ag:=(DN (Sk ss) i b).set i {s with rows:=DN (K5 s.name ss) r s.rows}
noncomputable def mv1(ss:List BP)(b:Ag)(i:Nat):Ag:=DN (Sk ss) i b
theorem Td{α:Type}{l:List α}{k:Nat}{x:α}(h:l[k]?=some x):l.set k x=l:=by
 apply Ack;intro i;have hk:=(Aav.1 h).1;rw[AbS];by_cases e:k=i
 ·subst e;rw[if_pos rfl,if_pos hk,h]
 ·simp[e]
theorem DW{α:Type}{f:α→α}{k:Nat}{l:List α}{x:α}(h:l[k]?=some x):(DN f k l)[k]?=some x:=by rw[MP,h];simp
theorem Y3(ss:List BP)(b:Ag):mv1 ss b 0=b:=Hr _ _
theorem ZO(ss:List BP)(b:Ag):mv1 ss b b.length=I5 ss b:=I2 _ _
theorem ZP{ss:List BP}{b:Ag}{i:Nat}{s:Af}(hs:b[i]?=some s):mv1 ss b i=Zr ss b i s 0:=by
 rw[Zr,Hr,mv1];exact(Td (DW hs)).symm
theorem ZQ{ss:List BP}{b:Ag}{i:Nat}{s:Af}(hs:b[i]?=some s):Zr ss b i s s.rows.length=mv1 ss b (i+1):=by
 rw[Zr,I2,mv1,←I3 hs];rfl
theorem WC{ss:List BP}{b:Ag}{i r:Nat}{s:Af}{row:List (List UInt8)}(hr:s.rows[r]?=some row):Zr ss b i s r=ZR ss b i s r row 0:=by
 rw[ZR,Hr,Zr,Td (DW hr)]
theorem ZS{ss:List BP}{b:Ag}{i r:Nat}{s:Af}{row:List (List UInt8)}(hr:s.rows[r]?=some row):ZR ss b i s r row row.length=Zr ss b i s (r+1):=by
 rw[ZR,I2,Zr,←I3 hr];rfl
theorem Y4{ss:List BP}{b:Ag}{i r k:Nat}{s:Af}{row:List (List UInt8)}(hs:b[i]?=some s)(hr:s.rows[r]?=some row):(ZR ss b i s r row k)[i]?=some {s with rows:=(DN (K5 s.name ss) r s.rows).set r (DN (B3 s.name ss) k row)}∧((DN (K5 s.name ss) r s.rows).set r (DN (B3 s.name ss) k row))[r]?=some (DN (B3 s.name ss) k row):=
 ⟨UL (DW hs),UL (DW hr)⟩
theorem ZT{ss:List BP}{b:Ag}{i r k:Nat}{s:Af}{row:List (List UInt8)}{x:List UInt8}(hs:b[i]?=some s)(hr:s.rows[r]?=some row)(hk:row[k]?=some x):H3 (ZR ss b i s r row k) i r k (B3 s.name ss x)=ZR ss b i s r row (k+1):=by
 obtain⟨h1,h2⟩:=Y4 (ss:=ss) (k:=k) hs hr;rw[H3,NW h1];unfold JZ;simp only;rw[NW h2,I3 hk];unfold ZR;rw[Ae6,Ae6]
theorem Y5{ss:List BP}(hss:∀x∈ss,x.May){s:Af}(h:AJ s=true):AJ (Sk ss s)=true:=by
 simp only[AJ,Abf,Ac2,decide_eq_true_eq] at h ⊢;obtain⟨⟨⟨⟨h1,h2⟩,h3⟩,h4⟩,h5⟩:=h;refine⟨⟨⟨⟨h1,h2⟩,h3⟩,by simpa[Sk] using h4⟩,λr hr=>?_⟩;obtain⟨q,hq,rfl⟩:=Acu.1 hr;obtain⟨h6,h7⟩:=h5 q hq;refine⟨by simpa[K5,Sk] using h6,λt ht=>?_⟩;obtain⟨u,hu,rfl⟩:=Acu.1 ht;exact NX hss (h7 u hu)
theorem Uy{ss:List BP}(hss:∀x∈ss,x.May){b:Ag}(h:A5 b=true):A5 (I5 ss b)=true:=by
 obtain⟨h1,h2,h3⟩:=AP.1 h;refine AP.2 ⟨by simpa[I5] using h1,λs hs=>?_,?_⟩
 ·obtain⟨u,hu,rfl⟩:=Acu.1 hs;exact Y5 hss (h2 u hu)
 ·unfold I5;rw[Aej];exact h3
theorem WB{ss:List BP}(hss:∀x∈ss,x.May){nm:List UInt8}{row:List (List UInt8)}(h:∀t∈row,Bt t=true)(t:List UInt8)(ht:t∈row):(B3 nm ss t).length≤1000000:=by have:=NT (NX (own:=nm) hss (h t ht));omega
theorem BI.sheet{lo:Nat}{w:World}{v:Value}{b:Ag}{rv:Nat→Value}{f:Nat→Nat→Nat}(h:BI lo w v b rv f){i:Nat}{s:Af}(hi:b[i]?=some s):∃B cb,v=.slice (some ⟨B,0,none⟩) b.length cb∧(∀j u,(Ap s (rv i))[j]?=some u→w.cell? (((⟨B,0,none⟩:Addr).add (((i:Nat):Int).toNat*3)).add j)=some u)∧CS lo w (rv i) s.rows (f i):=by
 have a0:=(Aav.1 hi).1;obtain⟨B,cb,sp,rfl,hB,-⟩:=h.own.get Aez;refine⟨B,cb,rfl,λj u hj=>?_,h.sub.rows i s a0 hi⟩;have a1:=(Aav.1 hj).1;rw[An,An];refine hB.cell ?_;rw[show 0+((i:Nat):Int).toNat*3+j=i*3+j by omega,Fk (FV b rv) (Fx hi) a1];exact hj
theorem BI.low{lo lo':Nat}{w:World}{v:Value}{b:Ag}{rv:Nat→Value}{f:Nat→Nat→Nat}(h:BI lo w v b rv f)(hl:lo'≤lo):BI lo' w v b rv f:=⟨h.own.low hl,h.names,h.small,⟨λj s hj hs=>(h.sub.rows j s hj hs).low hl,h.sub.apartV,h.sub.apart⟩⟩
theorem Y2{b:Ag}(h:A5 b=true){i:Nat}{s:Af}(hs:b[i]?=some s):s.rows.length≤24∧∀r∈s.rows,r.length≤12∧∀t∈r,Bt t=true:=by
 have hm:=(AP.1 h).2.1 s (Aa9 hs);simp only[AJ,Abf,Ac2,decide_eq_true_eq] at hm;obtain⟨⟨⟨⟨h1,h2⟩,h3⟩,h4⟩,h5⟩:=hm;exact⟨h4,λr hr=>⟨by have:=(h5 r hr).1;omega,(h5 r hr).2⟩⟩
set_option maxRecDepth 8000 in
set_option maxHeartbeats 16000000 in
theorem PK(b:Ag)(ss:List BP)(bv sv:Value)(w:World)(h:B5 w bv b)(hb:A5 b=true)(hs:Cp w sv ss)(hss:∀s∈ss,s.May):AF prog 109 [.agg ⟨[bv]⟩,sv] w (λv w'=>∃u rv f,v=.agg ⟨[u]⟩∧BI w.heap.size w' u (I5 ss b) rv f∧Ae w w'):=by
 obtain⟨p,c,rfl⟩:=Ao.slice h;obtain⟨sp,sc,rfl⟩:=hs.slice;have c2:=(AP.1 hb).1;refine AQ func109 ntmps109 ?_;apply CW.seq;apply CW.region;refine Sl ?_;refine Dq λA w1 c3 az hA=>?_;replace hA:Blk w1 A [.slice p b.length c] 29:=hA;refine Sa ?_;refine BX λR w2 c4 b0 hR=>?_;replace hA:=hA.ext b0;have a4:=az.trans b0;have c5:=hR.lt;refine Sw ?_;refine Ax rfl rfl (H8 b _ w2 (Ak.ext h a4)) ?_;rintro v w3 ⟨u,rv,f,rfl,an,b1⟩;obtain⟨up,uc,rfl⟩:=an.slice;refine Sw ?_;refine BX λC w4 c6 ba hC=>?_;refine Sw ?_;refine AR λw5 bb hC=>?_;replace hC:Blk w5 C [.slice up b.length uc] 29:=hC;have a5:Ae w3 w5:=ba.step bb Ae0;have a8:=b1.trans a5;have ao:=a4.trans a8;have bc:=hR.ext a8;have b2:=an.ext a5;have bd:=az.size;have be:=a4.size;have bf:=b1.size;have bg:=a5.size;have c7:=hC.lt;obtain⟨S0,a9⟩:∃S0:List Nat,∀b,b∈S0↔w2.heap.size≤b∧b<w3.heap.size:=⟨List.range' w2.heap.size (w3.heap.size - w2.heap.size),λb=>by rw[AdO];omega⟩;have bh:R∉S0:=λh=>by have:=(a9 R).1 h;omega
 have bi:C∉S0:=λh=>by have:=(a9 C).1 h;omega
 have aa:∀w',Chg S0 w5 w'→Ae w w':=λw' hx=>ao.step hx (λb hb=>by have:=(a9 b).1 hb;omega);have ap:∀i r s row,b[i]?=some s→s.rows[r]?=some row→row≠[]→f i r∈S0:=λi r s row hs hr hn=>(a9 _).2 (by
  have bj:=(Aav.1 hs).1;exact(an.sub.rows i s bj hs).lt (.inr ⟨r,row,hr,hn,rfl⟩))
 rw[←Y3 ss b] at b2;refine Sw ?_;refine CW.loop (ι:=Nat) (λi w'=>i≤b.length∧Chg S0 w5 w'∧BI w2.heap.size w' (.slice up b.length uc) (mv1 ss b i) rv f) (λi=>[(1,.slice sp ss.length sc),(4,.pointer (some ⟨R,0,none⟩)),(5,.pointer (some ⟨C,0,none⟩)),(6,.int .i64 i)]) (λi=>b.length - i) 0 ⟨Ac8 _,Chg.refl _ _,b2⟩ B9 ?_;rintro i w6 ⟨c8,ab,ac⟩;have c9:=hC.chg ab bi;have b3:=bc.chg ab bh;refine Sw ?_;refine Av (λh1=>?_) λh1=>?_;rotate_left
 ·have h1:i=b.length:=by simp at h1;omega
  subst h1;rw[ZO] at ac;refine Sw ?_;refine AR λw7 b4 b3=>?_;have bk:=ac.old b4 Ae0;refine Sw ?_;exact QW.body_c rfl rfl b3 rfl rfl rfl ⟨_,rv,f,rfl,BI.low bk Aez,(aa _ ab).step b4 Ae0⟩
 have h1:i<b.length:=by simp at h1;omega
 obtain⟨s,a6⟩:∃s,b[i]?=some s:=⟨_,Aak h1⟩;obtain⟨ca,bl⟩:=Y2 hb a6;rw[ZP a6] at ac;have aq:(Zr ss b i s 0)[i]?=some {s with rows:=DN (K5 s.name ss) 0 s.rows}:=UL (DW a6);obtain⟨B,cb,eB,ad,bm⟩:=ac.sheet aq;obtain⟨rfl,-,-⟩:=Acd eB;obtain⟨q,qc,eq⟩:∃q qc,rv i=.slice q s.rows.length qc:=by
  obtain⟨xs,ho,-⟩:=bm.own;obtain⟨q,qc,e⟩:=ho.slice;exact⟨q,qc,by rw[e];simp[D6]⟩
 have ar:∀j u,(Ap s (.slice q s.rows.length qc))[j]?=some u→w6.cell? (((⟨B,0,none⟩:Addr).add (((i:Nat):Int).toNat*3)).add j)=some u:=λj u hj=>ad j u (by rw[eq];exact hj);have cc:i<b.length:=h1;refine Sw ?_;refine BX λX w7 cd bn hX=>?_;refine Sw ?_;refine AR λw8 bo hX=>?_;replace hX:Blk w8 X (Ap s (.slice q s.rows.length qc)) 41:=hX;have ae:Ae w6 w8:=bn.step bo Ae0;have af:Chg S0 w5 w8:=ab.ext ae;have ce:=ab.size;have b5:X∉S0:=λh=>by have:=(a9 X).1 h;omega
 have bp:=ac.ext ae;refine Sw ?_;refine CW.loop (ι:=Nat) (λr w'=>r≤s.rows.length∧Chg S0 w8 w'∧BI w2.heap.size w' (.slice (some ⟨B,0,none⟩) b.length uc) (Zr ss b i s r) rv f) (λr=>[(1,.slice sp ss.length sc),(4,.pointer (some ⟨R,0,none⟩)),(5,.pointer (some ⟨C,0,none⟩)),(6,.int .i64 i),(7,.pointer (some ⟨X,0,none⟩)),(8,.int .i64 r)]) (λr=>s.rows.length - r) 0 ⟨Ac8 _,Chg.refl _ _,bp⟩ DL ?_;rintro r w9 ⟨cf,al,am⟩;have bq:=hX.chg al b5;refine Sw ?_;refine Av (λh2=>?_) λh2=>?_;rotate_left
 ·have h2:r=s.rows.length:=by simp at h2;omega
  subst h2;rw[ZQ a6] at am;refine Sw ?_;exact QW.again (i+1) ⟨by omega,af.same al,am⟩ B9 Aez
 have h2:r<s.rows.length:=by simp at h2;omega
 obtain⟨row,a0⟩:∃x,s.rows[r]?=some x:=⟨_,Aak h2⟩;obtain⟨cg,br⟩:=bl row (Aa9 a0);rw[WC a0] at am;refine Sw ?_;refine CW.loop (ι:=Nat) (λk w'=>k≤row.length∧Chg S0 w9 w'∧BI w2.heap.size w' (.slice (some ⟨B,0,none⟩) b.length uc) (ZR ss b i s r row k) rv f) (λk=>[(1,.slice sp ss.length sc),(4,.pointer (some ⟨R,0,none⟩)),(5,.pointer (some ⟨C,0,none⟩)),(6,.int .i64 i),(7,.pointer (some ⟨X,0,none⟩)),(8,.int .i64 r),(9,.int .i64 k)]) (λk=>row.length - k) 0 ⟨Ac8 _,Chg.refl _ _,am⟩ Nd ?_;rintro k b6 ⟨bs,a3,a1⟩;have bt:=bq.chg a3 b5;obtain⟨a7,a2⟩:=Y4 (ss:=ss) (k:=k) a6 a0;obtain⟨B',cb',eB',-,ag⟩:=a1.sheet a7;have bu:EK b6 (.slice q s.rows.length qc) ((DN (K5 s.name ss) r s.rows).set r (DN (B3 s.name ss) k row)):=by rw[←eq];exact ag.list
 have bw:((DN (K5 s.name ss) r s.rows).set r (DN (B3 s.name ss) k row)).length=s.rows.length:=by rw[Ado,D6]
 obtain⟨ga,q1,c1,eg,-,b7,b8⟩:=AO.at (p:=q) (c:=qc) (by rw[bw];exact bu) a2;subst eg;rw[D6] at b8 b7;refine Sw ?_;refine Av (λh3=>?_) λh3=>?_;rotate_left
 ·have h3:k=row.length:=by simp at h3;omega
  subst h3;rw[ZS a0] at a1;refine Sw ?_;exact QW.again (r+1) ⟨by omega,al.same a3,a1⟩ DL Aez
 have h3:k<row.length:=by simp at h3;omega
 obtain⟨tx,au⟩:∃x,row[k]?=some x:=⟨_,Aak h3⟩;have av:(DN (B3 s.name ss) k row)[k]?=some tx:=DW au;obtain⟨gt,et,-,ci,cj⟩:=A4.at (p:=q1) (c:=c1) (by rw[D6];exact b7) av;subst et;have bx:DN (B3 s.name ss) k row≠[]:=λe=>by
  have h:=congrArg List.length e;rw[D6] at h;have h0:row.length=0:=h;omega
 obtain⟨B2,cb2,M,cm,cx,-,eM,-,bz,ck,sp2,c0⟩:=a1.at a7 a2 bx;have e3:ga=⟨M,0,none⟩:=by
  rw[eq] at eM;exact Aa5 (Acd eM).1
 subst e3;have e4:gt=⟨f i r,0,none⟩:=by
  have h:=b8.symm.trans bz;exact Aa5 (Acd (Aa5 h)).1
 subst e4;have ah:=aa _ ((af.same al).same a3);refine Sw ?_;refine CW.drawG (Ae b6) 19 (λw' h=>h) Ae1 λwa cl=>?_;refine BD ?_;refine DR 17 λhS=>?_;refine Ax rfl rfl (SK tx s.name ss _ Aez _ (hs.ext (ah.trans hS)) hss) ?_;rintro v cn ⟨rfl,aw⟩;have ax:=hS.trans aw;clear hS;apply LW.nil;refine QW.headed ax ?_;refine BD ?_;refine GW.tail rfl Ae1 (λhS=>?_);refine LW.store (i:=k) (by show some (Value.pointer (some (Addr.add ⟨f i r,0,none⟩ (((k:Nat):Int).toNat*1))))=_;rw[An];congr;omega) rfl rfl (c0.ext hS) (Acw (by rw[Aax,Acg,D6];omega)) rfl rfl λco ai aj=>?_;rw[AcT _ _ (by rw[Acg,D6];omega),←List.map_set] at aj;have ak:=(a1.ext hS).set a7 a2 (by rw[D6];omega) (WB hss br tx (Aa9 au)) ai aj;rw[ZT a6 a0 au] at ak;have ay:row≠[]:=λe=>by rw[e] at h3;simp at h3
 refine Sw ?_;exact QW.again (k+1) ⟨by omega,(a3.ext hS).same (ai.mono λb' b9 _=>by simp only[Aaw] at b9;rw[b9];exact ap i r s row a6 a0 ay),ak⟩ Nd Aez
def GQ(s:Af)(a:Nat):Af:={s with rows:=s.rows.take a++[List.replicate s.cols.toNat []]++s.rows.drop a}
def Iw(s:Af)(a:Nat):Af:={s with rows:=s.rows.take a++s.rows.drop (a+1)}
def GI(a:Nat)(r:List (List UInt8)):List (List UInt8):=r.take a++[[]]++r.drop a
def G4(a:Nat)(r:List (List UInt8)):List (List UInt8):=r.take a++r.drop (a+1)
def Qr(s:Af)(a:Nat):Af:={s with cols:=s.cols+1,rows:=s.rows.map (GI a)}
def PS(s:Af)(a:Nat):Af:={s with cols:=s.cols - 1,rows:=s.rows.map (G4 a)}
theorem Pt:Bt []=true:=by decide +kernel
theorem Cr{s:Af}:AJ s=true↔D7 s.name=true∧0≤s.cols∧s.cols≤12∧s.rows.length≤24∧∀r∈s.rows,(r.length:Int)=s.cols∧∀t∈r,Bt t=true:=by
 simp only[AJ,Abf,Ac2,decide_eq_true_eq];constructor
 ·rintro⟨⟨⟨⟨h1,h2⟩,h3⟩,h4⟩,h5⟩;exact⟨h1,h2,h3,h4,h5⟩
 ·rintro⟨h1,h2,h3,h4,h5⟩;exact⟨⟨⟨⟨h1,h2⟩,h3⟩,h4⟩,h5⟩
theorem Uj{s:Af}{a:Nat}(h:AJ s=true)(hl:s.rows.length<24):AJ (GQ s a)=true:=by
 obtain⟨h1,h2,h3,h4,h5⟩:=Cr.1 h;refine Cr.2 ⟨h1,h2,h3,by simp[GQ];omega,λr hr=>?_⟩;simp only[GQ,AbB,Aaw] at hr;rcases hr with (hr | rfl) | hr
 ·exact h5 r (Ac5 hr)
 ·refine⟨by simp[GQ];omega,λt ht=>?_⟩;rw[(AdK.1 ht).2];exact Pt
 ·exact h5 r (AcM hr)
theorem Ua{s:Af}{a:Nat}(h:AJ s=true):AJ (Iw s a)=true:=by
 obtain⟨h1,h2,h3,h4,h5⟩:=Cr.1 h;refine Cr.2 ⟨h1,h2,h3,by simp[Iw];omega,λr hr=>?_⟩;simp only[Iw,AbB] at hr;rcases hr with hr | hr
 ·exact h5 r (Ac5 hr)
 ·exact h5 r (AcM hr)
theorem Ui{s:Af}{a:Nat}(h:AJ s=true)(hl:s.cols<12)(ha:a≤s.cols):AJ (Qr s a)=true:=by
 obtain⟨h1,h2,h3,h4,h5⟩:=Cr.1 h;refine Cr.2 ⟨h1,by show 0≤s.cols+1;omega,by show s.cols+1≤12;omega,by simp[Qr];omega,λr hr=>?_⟩;obtain⟨q,hq,rfl⟩:=Acu.1 hr;obtain⟨h6,h7⟩:=h5 q hq;refine⟨by show _=s.cols+1;simp[GI];omega,λt ht=>?_⟩;simp only[GI,AbB,Aaw] at ht;rcases ht with (ht | rfl) | ht
 ·exact h7 t (Ac5 ht)
 ·exact Pt
 ·exact h7 t (AcM ht)
theorem TZ{s:Af}{a:Nat}(h:AJ s=true)(ha:a<s.cols):AJ (PS s a)=true:=by
 obtain⟨h1,h2,h3,h4,h5⟩:=Cr.1 h;refine Cr.2 ⟨h1,by show 0≤s.cols - 1;omega,by show s.cols - 1≤12;omega,by simp[PS];omega,λr hr=>?_⟩;obtain⟨q,hq,rfl⟩:=Acu.1 hr;obtain⟨h6,h7⟩:=h5 q hq;refine⟨by show _=s.cols - 1;simp[G4];omega,λt ht=>?_⟩;simp only[G4,AbB] at ht;rcases ht with ht | ht
 ·exact h7 t (Ac5 ht)
 ·exact h7 t (AcM ht)
theorem Tp{w:World}{p:Option Addr}{c a:Nat}{l:List (List UInt8)}(h:CD w (.slice p l.length c) l)(ha:a≤l.length):p=none∧a=0∨∃x,p=some x∧∀j u,((l.take a).map Am)[j]?=some u→w.cell? (x.add j)=some u:=by
 cases p with
 | none=>
  left
  refine⟨rfl,?_⟩;obtain⟨-,⟨e,e2⟩ | ⟨x,cap,e,-,-⟩⟩:=h
  ·rw[e2] at ha;simpa using ha
  ·cases(Acd e).1
 | some x=>
  right
  refine⟨x,rfl,λj u hj=>?_⟩;rw[AbA,Adi] at hj
  split at hj
  ·obtain⟨t,ht,rfl⟩:=Aer.1 hj;obtain⟨y,e,-,-,hc⟩:=A4.at h ht;obtain rfl:=Aa5 e;rw[show((j:Nat):Int).toNat*1=j by omega] at hc;exact hc
  ·cases hj
theorem Tl{w:World}{p:Option Addr}{c a:Nat}{l:List (List UInt8)}(h:CD w (.slice p l.length c) l)(ha:a≤l.length)(hlc:l.length≤c):(if c=a then p else p.map (·.add (a*1)))=none∧l.length - a=0∨∃x,(if c=a then p else p.map (·.add (a*1)))=some x∧∀j u,((l.drop a).map Am)[j]?=some u→w.cell? (x.add j)=some u:=by
 cases p with
 | none=>
  left
  refine⟨by simp,?_⟩;obtain⟨-,⟨e,e2⟩ | ⟨x,cap,e,-,-⟩⟩:=h
  ·rw[e2];simp
  ·cases(Acd e).1
 | some x=>
  right
  by_cases e:c=a
  ·refine⟨x,by rw[if_pos e],λj u hj=>?_⟩;rw[AcD Aez] at hj;simp at hj
  ·refine⟨x.add (a*1),by rw[if_neg e];rfl,λj u hj=>?_⟩;rw[AbA,AcH] at hj;obtain⟨t,ht,rfl⟩:=Aer.1 hj;obtain⟨y,e2,-,-,hc⟩:=A4.at h ht;obtain rfl:=Aa5 e2;rw[AdY,show a*1+j=((a+j:Nat):Int).toNat*1 by omega];exact hc
theorem KW(l:List (List UInt8)):∀u∈l.map Am,u.oneCell'=true:=λu hu=>by
 obtain⟨t,-,rfl⟩:=Acu.1 hu;rfl
theorem Wn(n:Nat)(hn:n≤1000000)(w:World):AF prog 148 [.int .i64 n] w (λv w'=>∃B,v=.slice (some ⟨B,0,none⟩) n n∧w.heap.size≤B∧Blk w' B ((List.replicate n []).map Am) 9∧Ae w w'):=by
 refine AQ func148 ntmps148 ?_;refine Sw ?_;refine LW.makeSlice (m:=n) rfl rfl rfl rfl rfl rfl rfl Aez rfl rfl ?_;intro B w1 a1 a0 hB;refine Sw ?_;exact QW.body1 rfl rfl ⟨B,rfl,by omega,by rw[List.map_replicate];exact hB,a0⟩
set_option maxRecDepth 8000 in
set_option maxHeartbeats 4000000 in
theorem Zm(l:List (List UInt8))(p:Option Addr)(c a:Nat)(w:World)(h:CD w (.slice p l.length c) l)(hl:l.length≤1000)(ha:a≤l.length)(hc:l.length≤c):AF prog 153 [.slice p l.length c,.int .i64 a] w (λv w'=>E.A3 w' w.heap.size 9 1 v (GI a l).length ((GI a l).map Am)∧Ae w w'):=by
 refine AQ func153 ntmps153 ?_;refine Sw ?_
 (apply LW.buildSlice0;exact rfl;exact rfl;exact rfl;exact rfl;intro B w1 ac a2 hB)
 refine Sw ?_;refine LW.slice_hi (j:=a) rfl rfl rfl rfl rfl Aez rfl ?_;refine LW.append_any (lo:=w.heap.size) (xs:=[]) (news:=(l.take a).map Am) rfl rfl rfl rfl rfl rfl (⟨rfl,.inr ⟨B,0,[],rfl,hB,by simp,by simp,by omega⟩⟩) (by have:=a2.size;omega) (by rw[Acg,Ac3];show _=_*1;omega) (Tp (h.ext a2) ha) (KW _) (by show(0+_)*17≤_;omega) rfl ?_;intro v2 w2 a7 a3 ad;have a1:Ae w w2:=a2.step a7 AeC;have ae:=a2.size;have a8:=a1.size;simp only[Acb,AbW] at a3;obtain⟨p2,c2,rfl⟩:=a3.slice;refine Sw ?_;refine Cx λD w3 af a4 hD=>?_;refine Sw ?_;refine LW.append (lo:=w.heap.size) (k:=a) rfl rfl rfl rfl rfl rfl (a3.ext a4) (by have:=a4.size;omega) hD rfl rfl rfl AfI rfl ?_;intro v4 w4 a9 a5 ag;have a0:Ae w w4:=(a1.trans a4).step a9 (λb hb=>(a3.lt hb).1);have aa:=a0.size;obtain⟨p4,c4,rfl⟩:=a5.slice;refine Sw ?_;refine LW.val rfl rfl rfl (Y.slice_from (i:=a) rfl rfl rfl rfl rfl ha) ?_;refine LW.append_any (lo:=w.heap.size) (k:=a+1) (m:=l.length - a) (news:=(l.drop a).map Am) rfl rfl rfl rfl rfl rfl a5 Aez (by rw[Acg,AcO];show _=_*1;omega) (Tl (h.ext a0) ha hc) (KW _) (by show(_+1+_)*17≤_;omega) rfl ?_;intro v5 w5 ab a6 ah;obtain⟨p5,c5,rfl⟩:=a6.slice;refine Sw ?_;refine QW.body1 rfl rfl ⟨?_,a0.step ab (λb hb=>(a5.lt hb).1)⟩;have e1:(GI a l).length=a+1+(l.length - a):=by simp[GI];omega
 have e2:(GI a l).map Am=(l.take a).map Am++[Am []]++(l.drop a).map Am:=by simp[GI]
 rw[e1,e2];exact a6
set_option maxRecDepth 8000 in
set_option maxHeartbeats 4000000 in
theorem T5(l:List (List UInt8))(p:Option Addr)(c a:Nat)(w:World)(h:CD w (.slice p l.length c) l)(hl:l.length≤1000)(ha:a<l.length)(hc:l.length≤c):AF prog 154 [.slice p l.length c,.int .i64 a] w (λv w'=>E.A3 w' w.heap.size 9 1 v (G4 a l).length ((G4 a l).map Am)∧Ae w w'):=by
 refine AQ func154 ntmps154 ?_;refine Sw ?_
 (apply LW.buildSlice0;exact rfl;exact rfl;exact rfl;exact rfl;intro B w1 a7 a1 hB)
 refine Sw ?_;refine LW.slice_hi (j:=a) rfl rfl rfl rfl rfl Aez rfl ?_;refine LW.append_any (lo:=w.heap.size) (xs:=[]) (news:=(l.take a).map Am) rfl rfl rfl rfl rfl rfl (⟨rfl,.inr ⟨B,0,[],rfl,hB,by simp,by simp,by omega⟩⟩) AfJ (by rw[Acg,Ac3];show _=_*1;omega) (Tp (h.ext a1) Aez) (KW _) (by show(0+_)*17≤_;omega) rfl ?_;intro v2 w2 a4 a2 a8;have a0:Ae w w2:=a1.step a4 AeC;have a9:=a1.size;have a5:=a0.size;simp only[Acb,AbW] at a2;obtain⟨p2,c2,rfl⟩:=a2.slice;refine Sw ?_;refine LW.val rfl rfl rfl (Y.slice_from (i:=a+1) rfl rfl rfl rfl rfl Aez) ?_;refine LW.append_any (lo:=w.heap.size) (k:=a) (m:=l.length - (a+1)) (news:=(l.drop (a+1)).map Am) rfl rfl rfl rfl rfl rfl a2 Aez (by rw[Acg,AcO];show _=_*1;omega) (Tl (h.ext a0) Aez hc) (KW _) (by show(_+_)*17≤_;omega) rfl ?_;intro v5 w5 a6 a3 aa;obtain⟨p5,c5,rfl⟩:=a3.slice;refine Sw ?_;refine QW.body1 rfl rfl ⟨?_,a0.step a6 (λb hb=>(a2.lt hb).1)⟩;have e1:(G4 a l).length=a+(l.length - (a+1)):=by simp[G4];omega
 have e2:(G4 a l).map Am=(l.take a).map Am++(l.drop (a+1)).map Am:=by simp[G4]
 rw[e1,e2];exact a3
def C2(b:Ag)(i:Nat)(l:List (List (List UInt8))):Ag:=b.modify i λs=>{s with rows:=l}
theorem BU(b:Ag)(i:Nat)(l:List (List (List UInt8))):(C2 b i l).length=b.length:=by simp[C2]
theorem BL{b:Ag}{i:Nat}{s:Af}{l:List (List (List UInt8))}(h:b[i]?=some s):(C2 b i l)[i]?=some {s with rows:=l}:=by
 simp[C2,h]
theorem D8{b:Ag}{i j:Nat}{l:List (List (List UInt8))}(h:j≠i):(C2 b i l)[j]?=b[j]?:=by
 simp[C2,Ne.symm h]
theorem Mx(b:Ag)(i:Nat)(l m:List (List (List UInt8))):C2 (C2 b i l) i m=C2 b i m:=by
 apply Ack;intro j;simp only[C2,AcA]
 cases b[j]? with
 | none=>rfl
 | some s=>by_cases e:i=j<;>simp[e]
theorem KG{b:Ag}{i:Nat}{s:Af}(h:b[i]?=some s):C2 b i s.rows=b:=by
 apply Ack;intro j;by_cases e:j=i
 ·subst e;rw[BL h,h]
 ·rw[D8 e]
theorem MC(b:Ag)(i:Nat)(l:List (List (List UInt8)))(rv:Nat→Value):Br (C2 b i l) rv=Br b rv:=by
 apply Ack;intro j;simp only[Br,C2,Adx,AcA]
 cases b[j]? with
 | none=>rfl
 | some s=>by_cases e:i=j<;>simp[e,Ap]
theorem BI.openRow{lo:Nat}{w:World}{v:Value}{b:Ag}{rv:Nat→Value}{f:Nat→Nat→Nat}(h:BI lo w v b rv f){i r:Nat}{s:Af}{x:List (List UInt8)}(hi:b[i]?=some s)(hr:s.rows[r]?=some x) :
  ∃M cap xs sp,rv i=.slice (some ⟨M,0,none⟩) s.rows.length cap∧xs.length=s.rows.length∧Blk w M (xs++sp) 26∧lo≤M∧M∉Ac v∧s.rows.length≤cap∧(∀(q:Nat) (z:List (List UInt8)),s.rows[q]?=some z→∃u,xs[q]?=some u∧A4 (λa=>lo≤a.block∧a.block≠M) w u z∧Pd u)∧
   ∀(w':World) (u:Value) (y:List (List UInt8)) (g:Nat),Chg [M] w w'→Blk w' M ((xs++sp).set r u) 26→A4 (λa=>a=⟨g,0,none⟩) w' u y→Pd u→(y≠[]→lo≤g∧(∃sq,Blk w' g (y.map Am++sq) 9)∧g∉Ac v∧∀j t,b[j]?=some t→¬DJ (rv j) t.rows (f j) g)→
    BI lo w' v (C2 b i (s.rows.set r y)) rv (λj q=>if j=i∧q=r then g else f j q):=by
 have a3:=(Aav.1 hi).1;have a1:=(Aav.1 hr).1;have hF:=h.sub.rows i s a3 hi;obtain⟨xs,hO,hX⟩:=hF.own;obtain⟨ai,⟨_,h0⟩ | ⟨M,cap,sp,e,hB,a4,ae,ab⟩⟩:=hO
 ·omega
 have a7:M∈Ac (rv i):=by rw[e];simp[Ac]
 have ac:M∉Ac v:=h.sub.apartV i s a3 hi M (.inl a7);have a8:∀(q:Nat) (z:List (List UInt8)),s.rows[q]?=some z→z≠[]→f i q∉[M]:=λq z hq hz hm=>by
  simp only[Aaw] at hm;exact(hX.blk q z hq hz).2.1 (by rw[hm];exact a7)
 refine⟨M,cap,xs,sp,e,hX.len,hB,ab,ac,a4,λq z hq=>?_,λw' u y g hx ad hu af hg=>?_⟩
 ·obtain⟨u,h1,h2,h0⟩:=hX.val q z hq;refine⟨u,h1,?_,h0⟩;by_cases hz:z=[]
  ·subst hz;obtain⟨k0,⟨e1,e2⟩ | ⟨a,c,e1,_,h5⟩⟩:=h2
   ·exact⟨k0,.inl ⟨e1,e2⟩⟩
   ·exact⟨k0,.inr ⟨a,c,e1,λh=>absurd rfl h,h5⟩⟩
  ·refine Ao.map h2 (λa ha=>?_) λ_ _ _ _ h=>h;subst ha;exact⟨(hX.blk q z hq hz).1,λe2=>a8 q z hq hz (by simpa using e2)⟩
 have a9:(xs++sp).set r u=xs.set r u++sp:=AcT _ _ (by rw[hX.len];exact a1);rw[a9] at ad;have ag:y≠[]→g∉Ac (rv i):=λhn hm=>(hg hn).2.2.2 i s hi (.inl hm);have ah:CS lo w' (rv i) (s.rows.set r y) (λq=>if i=i∧q=r then g else f i q):=by
  refine⟨⟨xs.set r u,⟨by simp[hX.len],.inr ⟨M,cap,sp,by rw[e];simp,ad,by simpa using a4,by simpa using ae,ab⟩⟩,⟨by simp[hX.len],λq z hq=>?_,λq z hq hz=>?_,λp q z z' hp hq hz aa he=>?_⟩⟩,by simpa using hF.small⟩
  ·by_cases e1:r=q
   ·subst e1;rw[AbS,if_pos rfl,if_pos a1] at hq;obtain rfl:=Aa5 hq;exact⟨u,by rw[AbS,if_pos rfl,if_pos (by rw[hX.len];exact a1)],by simpa using hu,af⟩
   ·rw[AbS,if_neg e1] at hq;obtain⟨u2,h1,h2,h0⟩:=hX.val q z hq;refine⟨u2,by rw[AbS,if_neg e1];exact h1,?_,h0⟩;simp only[Ne.symm e1,and_false,if_false];exact h2.chg hx λhn a ha=>by rw[ha];exact a8 q z hq hn
  ·by_cases e1:r=q
   ·subst e1;rw[AbS,if_pos rfl,if_pos a1] at hq;obtain rfl:=Aa5 hq;simp only[and_self,if_true];exact⟨(hg hz).1,ag hz,(hg hz).2.1⟩
   ·rw[AbS,if_neg e1] at hq;simp only[Ne.symm e1,and_false,if_false];obtain⟨h1,h2,sq,h3⟩:=hX.blk q z hq hz;exact⟨h1,h2,sq,h3.chg hx (a8 q z hq hz)⟩
  ·by_cases e1:r=p
   ·by_cases e2:r=q
    ·omega
    ·subst e1;rw[AbS,if_pos rfl,if_pos a1] at hp;obtain rfl:=Aa5 hp;rw[AbS,if_neg e2] at hq;simp only[and_self,if_true,Ne.symm e2,and_false,if_false] at he;exact absurd (.inr ⟨q,z',hq,aa,he⟩) ((hg hz).2.2.2 i s hi)
   ·by_cases e2:r=q
    ·subst e2;rw[AbS,if_pos rfl,if_pos a1] at hq;obtain rfl:=Aa5 hq;rw[AbS,if_neg e1] at hp;simp only[and_self,if_true,Ne.symm e1,and_false,if_false] at he;exact absurd (.inr ⟨p,z,hp,hz,he.symm⟩) ((hg aa).2.2.2 i s hi)
    ·rw[AbS,if_neg e1] at hp;rw[AbS,if_neg e2] at hq;simp only[Ne.symm e1,Ne.symm e2,and_false,if_false] at he;exact hX.inj p q z z' hp hq hz aa he
 have a0:∀x,DJ (rv i) (s.rows.set r y) (λq=>if i=i∧q=r then g else f i q) x→DJ (rv i) s.rows (f i) x∨y≠[]∧x=g:=λx hx=>by
  rcases hx with hx | ⟨q,z,hq,hz,hx⟩
  ·exact .inl (.inl hx)
  ·by_cases e1:r=q
   ·subst e1;rw[AbS,if_pos rfl,if_pos a1] at hq;obtain rfl:=Aa5 hq;simp only[and_self,if_true] at hx;exact .inr ⟨hz,hx⟩
   ·rw[AbS,if_neg e1] at hq;simp only[Ne.symm e1,and_false,if_false] at hx;exact .inl (.inr ⟨q,z,hq,hz,hx⟩)
 have a5:∀j,j≠i→(λq=>if j=i∧q=r then g else f j q)=f j:=λj hj=>by
  funext q
  simp[hj]
 refine⟨by rw[MC,BU];exact h.own.chg hx λj hj hm=>by simp only[Aaw] at hm;exact ac (hm ▸ hj),λt ht=>?_,by rw[BU];exact h.small,⟨λj t hj ht=>?_,λj t hj ht x hx=>?_,λj k t t' hj hk a6 ht a2 x hx hy=>?_⟩⟩
 ·obtain⟨j,hj⟩:=Acy ht;by_cases e1:j=i
  ·subst e1;rw[BL hi] at hj;obtain rfl:=Aa5 hj;exact h.names s (Aa9 hi)
  ·rw[D8 e1] at hj;exact h.names t (Aa9 hj)
 ·rw[BU] at hj;by_cases e1:j=i
  ·subst e1;rw[BL hi] at ht;obtain rfl:=Aa5 ht;exact ah
  ·rw[D8 e1] at ht;rw[a5 j e1];exact(h.sub.rows j t hj ht).chg hx λx hx hm=>by
    simp only[Aaw] at hm;exact h.sub.apart j i t s hj a3 e1 ht hi x hx (by rw[hm];exact .inl a7)
 ·rw[BU] at hj;by_cases e1:j=i
  ·subst e1;rw[BL hi] at ht;obtain rfl:=Aa5 ht;rcases a0 x hx with h1 | ⟨h1,rfl⟩
   ·exact h.sub.apartV _ s a3 hi x h1
   ·exact(hg h1).2.2.1
  ·rw[D8 e1] at ht;rw[a5 j e1] at hx;exact h.sub.apartV j t hj ht x hx
 ·rw[BU] at hj hk;by_cases e1:j=i
  ·subst e1;rw[BL hi] at ht;obtain rfl:=Aa5 ht;rw[D8 (Ne.symm a6)] at a2;rw[a5 k (Ne.symm a6)] at hy;rcases a0 x hx with h1 | ⟨h1,rfl⟩
   ·exact h.sub.apart _ k s t' a3 hk a6 hi a2 x h1 hy
   ·exact(hg h1).2.2.2 k t' a2 hy
  ·rw[D8 e1] at ht;rw[a5 j e1] at hx;by_cases e2:k=i
   ·subst e2;rw[BL hi] at a2;obtain rfl:=Aa5 a2;rcases a0 x hy with h1 | ⟨h1,rfl⟩
    ·exact h.sub.apart j _ t s hj a3 a6 ht hi x hx h1
    ·exact(hg h1).2.2.2 j t ht hx
   ·rw[D8 e2] at a2;rw[a5 k e2] at hy;exact h.sub.apart j k t t' hj hk a6 ht a2 x hx hy
abbrev okN(lo B:Nat):Addr→Prop:=λa=>lo≤a.block∧a.block≠B
abbrev Me(lo B:Nat):=AO (okN lo B) (λ_=>okN lo B)
theorem CS.aside{lo B:Nat}{w:World}{v:Value}{l:List (List (List UInt8))}{f:Nat→Nat}(h:CS lo w v l f)(hn:∀x,DJ v l f x→x≠B):Me lo B w v l:=by
 obtain⟨xs,h1,h2⟩:=h.own;have:B1 1 lo 26 (Aaj λr a=>a=⟨f r,0,none⟩) w v l:=by
  refine⟨xs.map λu=>[u],by simp[h2.len],by simp,by rw[FQ];exact h1,λi x cs hi hc=>?_⟩;obtain⟨u,h3,h4,-⟩:=h2.val i x hi;rw[AbA,h3] at hc;simp at hc;exact⟨u,hc.symm,h4⟩
 refine Ao.map (this.list (ok:=okN lo B) h.small (λg hg _=>⟨(h1.lt hg).1,hn g (.inl hg)⟩)) (λ_ h=>h) λi x cs hi ⟨u,e,ht⟩=>⟨u,e,?_⟩;by_cases hx:x=[]
 ·subst hx;obtain⟨k0,⟨e1,e2⟩ | ⟨a,c,e1,_,h5⟩⟩:=ht
  ·exact⟨k0,.inl ⟨e1,e2⟩⟩
  ·exact⟨k0,.inr ⟨a,c,e1,λh=>absurd rfl h,h5⟩⟩
 ·exact Ao.map ht (λa ha=>by
   subst ha;exact⟨(h2.blk i x hi hx).1,hn _ (.inr ⟨i,x,hi,hx,rfl⟩)⟩) λ_ _ _ _ h=>h
theorem Me.new{lo B:Nat}{w:World}{v:Value}{l:List (List (List UInt8))}(h:Me lo B w v l):AO (EX lo) (λ_=>EX lo) w v l:=
 Ao.map h (λ_ h=>h.1) λ_ _ _ _ ⟨u,e,ht⟩=>⟨u,e,Ao.map ht (λ_ h=>h.1) λ_ _ _ _ h=>h⟩
theorem Mj{m:Nat}{ds:List Value}:∀{css:List (List Value)} {sp:List Value} {k:Nat} {cs:List Value},(∀cs∈css,cs.length=m)→css[k]?=some cs→(css.flatten++sp).take (k*m)++ds++(css.flatten++sp).drop (k*m+m)=(css.set k ds).flatten++sp
 | [],_,_,_,_,h=>by simp at h
 | y::l,sp,0,x,hl,h=>by
  have hy:=hl y (Acv ..)
  simp[←hy]
 | y::l,sp,k+1,x,hl,h=>by
  have ih:=Mj (css:=l) (sp:=sp) (k:=k) (cs:=x) (ds:=ds) (λcs hc=>hl cs (Aci _ hc)) Afa;have hy:=hl y (Acv ..);have e1:((y::l).flatten++sp)=y++(l.flatten++sp):=Ae7
  have e2:(k+1)*m=y.length+k*m:=by rw[hy,AcS];omega
  have e3:((y::l).set (k+1) ds).flatten++sp=y++((l.set k ds).flatten++sp):=Ae7
  rw[e1,e2,e3,←ih,List.take_length_add_append,Ady,List.drop_length_add_append];simp
theorem BI.putSheet{lo:Nat}{w w':World}{B cb:Nat}{b:Ag}{rv:Nat→Value}{f:Nat→Nat→Nat}{sp:List Value}(h:BI lo w (.slice (some ⟨B,0,none⟩) b.length cb) b rv f){k:Nat}{s s':Af}{rv':Value}(hk:b[k]?=some s)(hx:Chg [B] w w')(hB:Blk w' B (((Br b rv).set k (Ap s' rv')).flatten++sp) 41)(hn:s'.name.length≤1000000)(hr:Me lo B w rv' s'.rows)(hlo:lo≤B) :
  Bq lo w' (.slice (some ⟨B,0,none⟩) b.length cb) (b.set k s'):=by
 have a1:=(Aav.1 hk).1;have a2:∀{v:Value} {l:List (List (List UInt8))},Me lo B w v l→Me lo B w' v l:=λh=>AO.chg h hx (λa ha hm=>ha.2 (by simpa using hm)) (λ_ _ a _ _ ha hm=>ha.2 (by simpa using hm));refine⟨by simpa using h.small,.inr ⟨⟨B,0,none⟩,cb,by simp,λ_=>hlo,λi x hi=>?_⟩⟩;have h3:∀cs∈(Br b rv).set k (Ap s' rv'),cs.length=3:=λcs hc=>by
  rcases AcW hc with h1 | rfl
  ·exact FV b rv cs h1
  ·rfl
 have a0:∀{cs:List Value},((Br b rv).set k (Ap s' rv'))[i]?=some cs→∀j u,cs[j]?=some u→w'.cell? ((Addr.add ⟨B,0,none⟩ (i*3)).add j)=some u:=λ{cs} hc j u hj=>by
  have a4:=(Aav.1 hj).1;have:=h3 cs (Aa9 hc);rw[An,An];refine hB.cell ?_;rw[AbW,Fk h3 hc Aez];exact hj
 by_cases e:k=i
 ·subst e;rw[AbS,if_pos rfl,if_pos a1] at hi;obtain rfl:=Aa5 hi;exact⟨Ap s' rv',rfl,⟨rv',rfl,hn,(a2 hr).new⟩,a0 (by rw[AbS,if_pos rfl,if_pos (by rw[IJ];exact a1)])⟩
 ·rw[AbS,if_neg e] at hi;have a3:=(Aav.1 hi).1;refine⟨Ap x (rv i),rfl,⟨rv i,rfl,h.names x (Aa9 hi),(a2 ((h.sub.rows i x a3 hi).aside λy hy e2=>?_)).new⟩,a0 (by rw[AbS,if_neg e];exact Fx hi)⟩;exact h.sub.apartV i x a3 hi y hy (by rw[e2];simp[Ac])
def Bp(b:Ag):List (List UInt8):=b.map Af.name
theorem LD{b:Ag}:A5 b=true↔b.length≤5∧(∀s∈b,AJ s=true)∧(Bp b).Pairwise (λx y=>Op.bytesLess x y=true):=by
 rw[AP,Bp,Aej]
theorem WD(ss:List BP)(b:Ag):Bp (I5 ss b)=Bp b:=by simp[Bp,I5,Sk]
theorem Ob{b:Ag}{k:Nat}{s s':Af}(hk:b[k]?=some s)(hn:s'.name=s.name):Bp (b.set k s')=Bp b:=by
 have a0:=(Aav.1 hk).1;apply Ack;intro j;simp only[Bp,AbA,AbS];by_cases e:k=j
 ·subst e;have h2:=(Aav.1 hk).2;simp[a0,hn,h2]
 ·simp[e]
theorem Vz{b:Ag}{k:Nat}{s s':Af}(h:A5 b=true)(hk:b[k]?=some s)(hn:s'.name=s.name)(hs:AJ s'=true):A5 (b.set k s')=true:=by
 obtain⟨h1,h2,h3⟩:=LD.1 h;refine LD.2 ⟨by simpa using h1,λu hu=>?_,by rw[Ob hk hn];exact h3⟩;rcases AcW hu with h | rfl
 ·exact h2 u h
 ·exact hs
def HO(sh:Nat):List (List UInt8):=(List.range (1+sh % 3)).map λi=>[ch ((65+i+sh / 64*i:Nat):Int)]
theorem Y6(zs:List Int)(sh:Nat):Bp (Dr zs sh)=HO sh:=by simp[Bp,Dr,HO,BG]
theorem U0(sh:Nat):(HO sh).length≤3:=by simp[HO];omega
abbrev Mq:List UInt8:=[90]
abbrev YM(l:List (List UInt8)):Prop:=l.Pairwise (λx y=>Op.bytesLess x y=true)
theorem So:∀sh,sh<256→YM (HO sh++[Mq]):=by decide +kernel
def F1(N:List (List UInt8))(b:Ag):Prop:=(Bp b).Sublist (N++[Mq])
theorem YZ{α:Type}{l N:List α}{z:α}(h:l.Sublist (N++[z]))(hz:z∉l):l.Sublist N:=by
 obtain⟨l1,l2,rfl,h1,h2⟩:=List.sublist_append_iff.1 h
 cases l2 with
 | nil=>simpa using h1
 | cons x r=>
  have:=h2.subset (Acv ..);simp only[Aaw] at this;exact absurd (by rw[this];simp) hz
theorem UU{N:List (List UInt8)}{b:Ag}(hN:YM (N++[Mq]))(hl:N.length≤3)(h:F1 N b)(hs:∀s∈b,AJ s=true):A5 b=true:=by
 refine LD.2 ⟨?_,hs,hN.sublist h⟩;have:=h.length_le;simp[Bp] at this;omega
theorem Zn(zs:List Int)(sh:Nat):F1 (HO sh) (Dr zs sh):=by
 unfold F1;rw[Y6];exact Aek _ _
theorem T4{N:List (List UInt8)}{b:Ag}{s:Af}(h:F1 N b)(hz:Mq∉Bp b)(hn:s.name=Mq):F1 N (b++[s]):=by
 have h1:=YZ h hz;unfold F1 Bp;rw[Ac1,List.map_singleton,hn];exact h1.append (List.Sublist.refl _)
theorem Nk{b:Ag}{nm:List UInt8}(h:IW b nm=none):nm∉Bp b:=λhm=>by
 obtain⟨s,hs,e⟩:=Acu.1 hm;rw[IW,Adu] at h;have:=h s hs;simp[e] at this
def IQ(n:Nat):List UInt8:=match n % 4 with
 | 0=>[57]
 | 1=>[39,113]
 | 2=>[61,65,49]
 | _=>[]
def Ab8:Tr false:=lfR (rfP 0 0)
theorem VN:Ab8.okB=true∧61::Ab8.text=[61,65,49]:=by decide +kernel
def trZ:Tr false:=.two 16 (lfR ⟨[65],0,0,false,false⟩) (lfN 1)
theorem Zh:trZ.okB=true∧61::trZ.text=[61,65,33,65,49,43,49]:=by decide +kernel
theorem Mb(n:Nat):Bt (IQ n)=true:=by
 unfold IQ
 split
 ·have h:=NU 9 Aez Aez;rwa [show Lib.itoa 9=[57] by decide +kernel] at h
 ·rw[Bt,if_neg Ae7,if_pos (.inr (by simp[Ab]))]
 ·rw[←VN.2];exact MR VN.1
 ·exact Vx
def OC:Af:={name:=Mq,cols:=1,rows:=[[[61,65,33,65,49,43,49]],[[53]]]}
theorem UM:AJ OC=true:=by
 refine Cr.2 ⟨by decide +kernel,by decide,by decide,by decide,λr hr=>?_⟩;simp only[OC,Acf,Acn,or_false] at hr;rcases hr with rfl | rfl
 ·refine⟨rfl,λt ht=>?_⟩;simp only[Aaw] at ht;subst ht;rw[←Zh.2];exact MR Zh.1
 ·refine⟨rfl,λt ht=>?_⟩;simp only[Aaw] at ht;subst ht;have h:=NU 5 Aez Aez;rwa [show Lib.itoa 5=[53] by decide +kernel] at h
def Tq(kd:Nat)(nm:List UInt8)(a:Nat):List Value:=[.int .i64 (kd:Int),Am nm,.int .i64 (a:Int),.int .i64 0,.int .i64 0,Am []]
def VI(u sn rt rn ct cn g:Value)(e:Int):List Value:=[u,sn,rt,rn,ct,cn,g,.int .i64 e]
def Vb(lo:Nat)(b:Ag)(v:Value)(w:World):Prop:=∃u sn rt rn ct cn g e,v=.agg ⟨VI u sn rt rn ct cn g e⟩∧(VI u sn rt rn ct cn g e).all (·.oneCell')=true∧(e=0→∃b',A5 b'=true∧Bp b'=Bp b∧Bq lo w u b')
def VK(nm:List UInt8)(r c:Nat):BP:={sheet:=nm,rows:=Cs r,cols:=Cs c,gone:=false}
structure X3(lo:Nat)(w:World)(T:Nat)(s:BP)(rv cv:Value):Prop where
 blk:Blk w T (KZ s rv cv) 73
 rows:E.A3 w lo 3 1 rv s.rows.to.length (Ad s.rows.to)
 cols:E.A3 w lo 3 1 cv s.cols.to.length (Ad s.cols.to)
 nr:T∉Ac rv
 nc:T∉Ac cv
theorem X3.ext{lo:Nat}{w w':World}{T:Nat}{s:BP}{rv cv:Value}(h:X3 lo w T s rv cv)(x:Ae w w'):X3 lo w' T s rv cv:=⟨h.blk.ext x,h.rows.ext x,h.cols.ext x,h.nr,h.nc⟩
theorem X3.old{S:List Nat}{lo:Nat}{w w':World}{T:Nat}{s:BP}{rv cv:Value}(h:X3 lo w T s rv cv)(x:Chg S w w')(hS:∀b∈S,b<lo)(hT:lo≤T):X3 lo w' T s rv cv:=
 ⟨h.blk.chg x (λhm=>by have:=hS _ hm;omega),h.rows.chg x (λb hb hm=>by have:=(h.rows.lt hb).1;have:=hS _ hm;omega),h.cols.chg x (λb hb hm=>by have:=(h.cols.lt hb).1;have:=hS _ hm;omega),h.nr,h.nc⟩
theorem Xm{w:World}{B:Nat}{s:BP}{rv cv:Value}{T:TypeId}(h:Blk w B (KZ s rv cv) T)(hr:Bs w rv s.rows.to)(hc:Bs w cv s.cols.to):Cp w (.slice (some ⟨B,0,none⟩) 1 1) [s]:=by
 refine⟨by simp,.inr ⟨⟨B,0,none⟩,1,rfl,λi x hi=>?_⟩⟩
 cases i with
 | zero=>
  obtain rfl:=Aa5 hi;refine⟨rv,cv,hr,hc,λj u hj=>?_⟩;rw[An,An];refine h.cell ?_;rw[show 0+0*6+j=j by omega]
  exact hj
 | succ i=>simp at hi
theorem Hv{w:World}{lo n T:Nat}{e e':TypeId}{v:Value}{xs cs:List Value}(h:E.A3 w lo e 1 v n xs)(hB:Blk w T cs e')(he:e≠e'):T∉Ac v:=by
 obtain⟨-,⟨rfl,-⟩ | ⟨g,cap,sp,rfl,hG,-⟩⟩:=h
 ·simp[Ac]
 ·intro hm;simp only[Ac,Aaw] at hm;subst hm;have:=hB.symm.trans hG;simp only[Aa3,Aet] at this;exact he this.2.1.symm
theorem Jm(k:Nat):(Cs k).to.length=k:=A8 _ _
theorem Kx(k a:Nat):(L8 k a).to.length=k:=by unfold L8;split<;>simp[R9,Cs,A8]
theorem Kr(k a:Nat):(L1 k a).to.length=k:=by unfold L1;split<;>simp[Rx,Cs,A8]
theorem Mw{b:Ag}{k:Nat}{l:List (List (List UInt8))}{s':Af}:(C2 b k l).set k s'=b.set k s':=by
 apply Ack;intro j;rw[AbS,AbS,BU];by_cases e:k=j
 ·rw[if_pos e,if_pos e]
 ·rw[if_neg e,if_neg e,D8 (Ne.symm e)]
def Ch(lo B:Nat)(w:World)(xs:List Value)(l:List (List (List UInt8))):Prop:=xs.length=l.length∧∀(r:Nat) (x:List (List UInt8)),l[r]?=some x→∃u,xs[r]?=some u∧u.oneCell'=true∧A4 (okN lo B) w u x
theorem Ch.ext{lo B:Nat}{w w':World}{xs:List Value}{l:List (List (List UInt8))}(h:Ch lo B w xs l)(x:Ae w w'):Ch lo B w' xs l:=⟨h.1,λr y hr=>let ⟨u,h1,h2,h3⟩:=h.2 r y hr;⟨u,h1,h2,h3.ext x⟩⟩
theorem Ch.take{lo B:Nat}{w:World}{xs:List Value}{l:List (List (List UInt8))}(h:Ch lo B w xs l)(a:Nat):Ch lo B w (xs.take a) (l.take a):=by
 refine⟨by simp[h.1],λr x hr=>?_⟩;rw[Adi] at hr ⊢
 split at hr
 ·rename_i a0;rw[if_pos a0];exact h.2 r x hr
 ·cases hr
theorem Ch.drop{lo B:Nat}{w:World}{xs:List Value}{l:List (List (List UInt8))}(h:Ch lo B w xs l)(a:Nat):Ch lo B w (xs.drop a) (l.drop a):=by
 refine⟨by simp[h.1],λr x hr=>?_⟩;rw[AcH] at hr ⊢;exact h.2 _ x hr
theorem Ch.app{lo B:Nat}{w:World}{xs ys:List Value}{l m:List (List (List UInt8))}(h:Ch lo B w xs l)(h':Ch lo B w ys m):Ch lo B w (xs++ys) (l++m):=by
 refine⟨by simp[h.1,h'.1],λr x hr=>?_⟩;by_cases e:r<l.length
 ·rw[Abg e] at hr;rw[Abg (by rw[h.1];exact e)];exact h.2 r x hr
 ·rw[Ace Aez] at hr;rw[Ace (by rw[h.1];omega),h.1];exact h'.2 _ x hr
theorem Ch.one{lo B:Nat}{w:World}{p:Option Addr}{n c:Nat}{x:List (List UInt8)}(h:A4 (okN lo B) w (.slice p n c) x):Ch lo B w [.slice p n c] [x]:=by
 refine⟨rfl,λr y hr=>?_⟩
 cases r with
 | zero=>
  obtain rfl:=Aa5 hr
  exact⟨_,rfl,rfl,h⟩
 | succ r=>simp at hr
theorem Ch.cells{lo B:Nat}{w:World}{xs:List Value}{l:List (List (List UInt8))}(h:Ch lo B w xs l):∀u∈xs,u.oneCell'=true:=λu hu=>by
 obtain⟨r,hr⟩:=Acy hu;have hl:=(Aav.1 hr).1;obtain⟨x,hx⟩:∃x,l[r]?=some x:=⟨_,Aak (by rw[←h.1];exact hl)⟩;obtain⟨u',h1,h2,-⟩:=h.2 r x hx;rw[hr] at h1;obtain rfl:=Aa5 h1;exact h2
theorem Ch.rows{lo lo' B:Nat}{w:World}{v:Value}{xs:List Value}{l:List (List (List UInt8))}(h:Ch lo B w xs l)(hO:E.A3 w lo' 26 1 v l.length xs)(hl:l.length≤1000000)(hlo:lo≤lo')(hB:B<lo'):Me lo B w v l:=by
 have:B1 1 lo' 26 (Aaj λ_=>okN lo B) w v l:=by
  refine⟨xs.map λu=>[u],by simp[h.1],by simp,by rw[FQ];exact hO,λi x cs hi hc=>?_⟩;obtain⟨u,h3,-,h4⟩:=h.2 i x hi;rw[AbA,h3] at hc;simp at hc;exact⟨u,hc.symm,h4⟩
 exact this.list (ok:=okN lo B) hl λg hg _=>by
  have:=(hO.lt hg).1;exact⟨by show lo≤g;omega,by show g≠B;omega⟩
theorem CS.vals{lo B:Nat}{w:World}{v:Value}{l:List (List (List UInt8))}{f:Nat→Nat}(h:CS lo w v l f)(hn:∀x,DJ v l f x→x≠B):∃xs,E.A3 w lo 26 1 v l.length xs∧Ch lo B w xs l:=by
 obtain⟨xs,h1,h2⟩:=h.own;refine⟨xs,h1,h2.len,λr x hr=>?_⟩;obtain⟨u,h3,h4,-⟩:=h2.val r x hr;refine⟨u,h3,?_,?_⟩
 ·obtain⟨p,c,rfl⟩:=h4.slice;rfl
 ·by_cases hx:x=[]
  ·subst hx;obtain⟨k0,⟨e1,e2⟩ | ⟨a,c,e1,_,h5⟩⟩:=h4
   ·exact⟨k0,.inl ⟨e1,e2⟩⟩
   ·exact⟨k0,.inr ⟨a,c,e1,λh=>absurd rfl h,h5⟩⟩
  ·exact Ao.map h4 (λa ha=>by
    subst ha;exact⟨(h2.blk r x hr hx).1,hn _ (.inr ⟨r,x,hr,hx,rfl⟩)⟩) λ_ _ _ _ h=>h
theorem S5{w:World}{lo R qc a:Nat}{e:TypeId}{q:Option Addr}{xs:List Value}(h:E.A3 w lo e 1 (.slice q R qc) R xs)(ha:a≤R):q=none∧a=0∨∃x,q=some x∧∀j u,(xs.take a)[j]?=some u→w.cell? (x.add j)=some u:=by
 obtain⟨-,⟨e1,e2⟩ | ⟨g,cap,sp,e1,hB,-⟩⟩:=h
 ·obtain⟨rfl,-,-⟩:=Acd e1;exact .inl ⟨rfl,by omega⟩
 ·obtain⟨rfl,-,-⟩:=Acd e1;refine .inr ⟨_,rfl,λj u hj=>?_⟩;rw[Adi] at hj
  split at hj
  ·rw[An,AbW];exact hB.cell AfE
  ·cases hj
theorem S4{w:World}{lo R qc a:Nat}{e:TypeId}{q:Option Addr}{xs:List Value}(h:E.A3 w lo e 1 (.slice q R qc) R xs)(ha:a≤R):(if qc=a then q else q.map (·.add (a*1)))=none∧R - a=0∨∃x,(if qc=a then q else q.map (·.add (a*1)))=some x∧∀j u,(xs.drop a)[j]?=some u→w.cell? (x.add j)=some u:=by
 obtain⟨hl,⟨e1,e2⟩ | ⟨g,cap,sp,e1,hB,a0,-⟩⟩:=h
 ·obtain⟨rfl,-,-⟩:=Acd e1;exact .inl ⟨by simp,by omega⟩
 ·obtain⟨rfl,-,rfl⟩:=Acd e1
  right
  by_cases e2:qc=a
  ·refine⟨_,by rw[if_pos e2],λj u hj=>?_⟩;rw[AcD Aez] at hj;simp at hj
  ·refine⟨_,by rw[if_neg e2];rfl,λj u hj=>?_⟩;rw[AcH] at hj;show w.cell? ((Addr.add ⟨g,0,none⟩ (a*1)).add j)=_;rw[An,An,show 0+a*1+j=a+j by omega];exact hB.cell AfE
theorem LY{lo B g c:Nat}{w:World}{T:TypeId}{l:List (List UInt8)}(h:Blk w g (l.map Am) T)(hl:l.length≤1000000)(hs:∀t∈l,t.length≤1000000)(hlo:lo≤g)(hB:g≠B):A4 (okN lo B) w (.slice (some ⟨g,0,none⟩) l.length c) l:=
 ⟨hl,.inr ⟨⟨g,0,none⟩,c,rfl,λ_=>⟨hlo,hB⟩,λi t hi=>⟨[Am t],rfl,⟨rfl,hs t (Aa9 hi)⟩,λj u hj=>by
  match j,hj with
  | 0,hj=>
   obtain rfl:=Aa5 hj;rw[An,An];refine h.cell ?_;rw[show 0+i*1+0=i by omega,AbA,hi];rfl⟩⟩⟩
set_option maxRecDepth 8000 in
set_option maxHeartbeats 16000000 in
theorem WA(b:Ag)(k kd a lo B cb:Nat)(rv:Nat→Value)(f:Nat→Nat→Nat)(s:Af)(w:World)(h:BI lo w (.slice (some ⟨B,0,none⟩) b.length cb) b rv f)(hb:A5 b=true)(hs:b[k]?=some s)(hk:kd=3∨kd=4∨kd=5∨kd=6)(ha:a≤1000)(hlw:lo≤w.heap.size) :
  AF prog 108 [.agg ⟨[.slice (some ⟨B,0,none⟩) b.length cb]⟩,.int .i64 (k:Int),.agg ⟨Tq kd s.name a⟩] w (λv w'=>Vb lo b v w'∧∃S,(∀x∈S,lo≤x)∧Chg S w w'):=by
 have ey:=(AP.1 hb).1;have bm:=(Aav.1 hs).1;have bn:=(AP.1 hb).2.1 s (Aa9 hs);obtain⟨ez,f0,f1,f3,d6⟩:=Cr.1 bn;obtain⟨c,hc⟩:∃c:Nat,s.cols=c:=⟨s.cols.toNat,by omega⟩;obtain⟨_,_,eB,az,d7⟩:=h.sheet hs;obtain⟨rfl,-,rfl⟩:_∧_∧_:=by
  have:=Acd eB;exact⟨Aa5 this.1 |> λe=>(Addr.mk.inj e).1,this.2.1,this.2.2⟩
 obtain⟨q,qc,eq⟩:∃q qc,rv k=.slice q s.rows.length qc:=by
  obtain⟨xs,ho,-⟩:=d7.own;exact ho.slice
 rw[eq] at az;refine AQ func108 ntmps108 ?_;apply CW.seq;apply CW.region;refine Sl ?_;refine Dq λA w1 f4 d8 hA=>?_;replace hA:Blk w1 A [.slice (some ⟨_,0,none⟩) b.length _] 29:=hA;have f5:=hA.lt;refine Sa ?_;refine Dq λZ w2 f6 c9 hZ=>?_;replace hZ:Blk w2 Z (Tq kd s.name a) 96:=hZ;have f7:=hZ.lt;refine Sa ?_;refine BX λR w3 f8 c3 hR=>?_;have f9:=hR.lt;have bo:=(d8.trans c9).trans c3;replace hA:=(hA.ext c9).ext c3;replace hZ:=hZ.ext c3;have ca:∀j u,(Ap s (.slice q s.rows.length qc))[j]?=some u→w3.cell? (((⟨B,0,none⟩:Addr).add (((k:Nat):Int).toNat*3)).add j)=some u:=λj u hj=>A2 bo (az j u hj);refine Sw ?_;refine BX λX w4 fa dl hX=>?_;refine Sw ?_;refine AR λw5 dm hX=>?_;replace hX:Blk w5 X (Ap s (.slice q s.rows.length qc)) 41:=hX;have fb:=hX.lt;have fc:=d8.size;have fd:=c9.size;have fe:=c3.size;have ao:Ae w3 w5:=dl.step dm Ae0;have bp:=bo.trans ao;replace hA:=hA.ext ao;replace hZ:=hZ.ext ao;replace hR:=hR.ext ao;refine Sw ?_;refine HZ ?_;refine MF ?_;refine QL.nil λw6 bi=>?_;have ff:=bp.size;replace hA:=hA.ext bi;replace hZ:=hZ.ext bi;replace hR:=hR.ext bi;replace hX:=hX.ext bi;have bq:=bp.trans bi;have fg:=bq.size;refine Sw ?_;rw[hc];refine CW.cut (ι:=Nat×Value×Value) (λx w'=>Ae w6 w'∧w6.heap.size≤x.1∧X3 w6.heap.size w' x.1 (VK s.name s.rows.length c) x.2.1 x.2.2) (λx=>[(1,.int .i64 (k:Int)),(3,.pointer (some ⟨A,0,none⟩)),(5,.pointer (some ⟨Z,0,none⟩)),(6,.pointer (some ⟨R,0,none⟩)),(7,.pointer (some ⟨X,0,none⟩)),(8,.int .i64 (s.rows.length:Int)),(9,.int .i64 (c:Int)),(10,.pointer (some ⟨x.1,0,none⟩))]) ?_ ?_
 ·refine CW.drawG (Ae w6) 8 (λw' h=>h) Ae1 λwa ad=>?_;have hE:=ad;refine BD ?_;refine GW.two 3 7 Ae1 rfl rfl rfl rfl rfl rfl (λhS=>?_) (λhS=>?_)
  ·refine Ax rfl rfl (FZ s.rows.length Aez _) ?_;rintro v wt ⟨⟨t1,rfl,a2⟩,a0⟩;have a2:=a2.low hE.size;obtain⟨p1,c1,rfl⟩:=a2.slice;have dn:=a0.size;have hE:=hE.trans a0;clear hS;apply LW.nil;refine QW.headed hE ?_;refine BD ?_;refine GW.two 5 7 Ae1 rfl rfl rfl rfl rfl rfl (λhS=>?_) (λhS=>?_)
   ·refine Ax rfl rfl (FZ c Aez _) ?_;rintro v wt ⟨⟨t2,rfl,a7⟩,a0⟩;have a7:=a7.low hE.size;obtain⟨p2,c2,rfl⟩:=a7.slice;replace a2:=by first | exact a2.ext a0 | exact Ao.ext' a2 a0 (λ_ _ _ _ h=>h) | exact Ak.ext a2 a0
    have dp:=a0.size;have hE:=hE.trans a0;clear hS;apply LW.nil;refine QW.headed hE ?_;refine BD ?_;refine DR 7 λhS=>?_;refine BX λT wl br a0 hT=>?_;have bs:=hT.lt;have bt:w6.heap.size≤T:=by rw[br];exact hE.size
    replace a2:=by first | exact a2.ext a0 | exact Ao.ext' a2 a0 (λ_ _ _ _ h=>h) | exact Ak.ext a2 a0
    replace a7:=by first | exact a7.ext a0 | exact Ao.ext' a7 a0 (λ_ _ _ _ h=>h) | exact Ak.ext a7 a0
    have dq:=a0.size;have hE:=hE.trans a0;clear hS;apply LW.nil;refine QW.headed hE ?_;refine BD ?_;refine GW.tail rfl Ae1 (λhS=>?_);have n1:=Hv a2 hT Ae2;have n2:=Hv a7 hT Ae2;refine AR λwe a6 hT=>?_;replace hT:Blk we T (KZ (VK s.name s.rows.length c) _ _) 73:=hT;have hE:=hE.step a6 Ae0;refine Sa ?_;exact QW.head (T,.slice p1 _ c1,.slice p2 _ c2) ⟨hE,bt,hT,a2.chg a6 (λb hb hm=>by simp only[Aaw] at hm;exact n1 (hm ▸ hb)),a7.chg a6 (λb hb hm=>by simp only[Aaw] at hm;exact n2 (hm ▸ hb)),n1,n2⟩ HA
   ·refine BX λT wl br a0 hT=>?_;have bs:=hT.lt;have bt:w6.heap.size≤T:=by rw[br];exact hE.size
    replace a2:=by first | exact a2.ext a0 | exact Ao.ext' a2 a0 (λ_ _ _ _ h=>h) | exact Ak.ext a2 a0
    have dr:=a0.size;have hE:=hE.trans a0;clear hS;apply LW.nil;refine QW.headed hE ?_;refine BD ?_;refine DR 5 λhS=>?_;refine Ax rfl rfl (FZ c Aez _) ?_;rintro v wt ⟨⟨t2,rfl,a7⟩,a0⟩;have a7:=a7.low hE.size;obtain⟨p2,c2,rfl⟩:=a7.slice;replace a2:=by first | exact a2.ext a0 | exact Ao.ext' a2 a0 (λ_ _ _ _ h=>h) | exact Ak.ext a2 a0
    replace hT:=by first | exact hT.ext a0 | exact Ao.ext' hT a0 (λ_ _ _ _ h=>h) | exact Ak.ext hT a0
    have ds:=a0.size;have hE:=hE.trans a0;clear hS;apply LW.nil;refine QW.headed hE ?_;refine BD ?_;refine GW.tail rfl Ae1 (λhS=>?_);have n1:=Hv a2 hT Ae2;have n2:=Hv a7 hT Ae2;refine AR λwe a6 hT=>?_;replace hT:Blk we T (KZ (VK s.name s.rows.length c) _ _) 73:=hT;have hE:=hE.step a6 Ae0;refine Sa ?_;exact QW.head (T,.slice p1 _ c1,.slice p2 _ c2) ⟨hE,bt,hT,a2.chg a6 (λb hb hm=>by simp only[Aaw] at hm;exact n1 (hm ▸ hb)),a7.chg a6 (λb hb hm=>by simp only[Aaw] at hm;exact n2 (hm ▸ hb)),n1,n2⟩ HA
  ·refine BX λT wl br a0 hT=>?_;have bs:=hT.lt;have bt:w6.heap.size≤T:=by rw[br];exact hE.size
   have dt:=a0.size;have hE:=hE.trans a0;clear hS;apply LW.nil;refine QW.headed hE ?_;refine BD ?_;refine DR 3 λhS=>?_;refine Ax rfl rfl (FZ s.rows.length Aez _) ?_;rintro v wt ⟨⟨t1,rfl,a2⟩,a0⟩;have a2:=a2.low hE.size;obtain⟨p1,c1,rfl⟩:=a2.slice;replace hT:=by first | exact hT.ext a0 | exact Ao.ext' hT a0 (λ_ _ _ _ h=>h) | exact Ak.ext hT a0
   have du:=a0.size;have hE:=hE.trans a0;clear hS;apply LW.nil;refine QW.headed hE ?_;refine BD ?_;refine DR 5 λhS=>?_;refine Ax rfl rfl (FZ c Aez _) ?_;rintro v wt ⟨⟨t2,rfl,a7⟩,a0⟩;have a7:=a7.low hE.size;obtain⟨p2,c2,rfl⟩:=a7.slice;replace a2:=by first | exact a2.ext a0 | exact Ao.ext' a2 a0 (λ_ _ _ _ h=>h) | exact Ak.ext a2 a0
   replace hT:=by first | exact hT.ext a0 | exact Ao.ext' hT a0 (λ_ _ _ _ h=>h) | exact Ak.ext hT a0
   have dv:=a0.size;have hE:=hE.trans a0;clear hS;apply LW.nil;refine QW.headed hE ?_;refine BD ?_;refine GW.tail rfl Ae1 (λhS=>?_);have n1:=Hv a2 hT Ae2;have n2:=Hv a7 hT Ae2;refine AR λwe a6 hT=>?_;replace hT:Blk we T (KZ (VK s.name s.rows.length c) _ _) 73:=hT;have hE:=hE.step a6 Ae0;refine Sa ?_;exact QW.head (T,.slice p1 _ c1,.slice p2 _ c2) ⟨hE,bt,hT,a2.chg a6 (λb hb hm=>by simp only[Aaw] at hm;exact n1 (hm ▸ hb)),a7.chg a6 (λb hb hm=>by simp only[Aaw] at hm;exact n2 (hm ▸ hb)),n1,n2⟩ HA
 rintro⟨T,rv0,cv0⟩ w7 ⟨bj,b0,hT⟩;dsimp only at b0 hT;show CW _ _ _ _ _ [(1,.int .i64 (k:Int)),(3,.pointer (some ⟨A,0,none⟩)),(5,.pointer (some ⟨Z,0,none⟩)),(6,.pointer (some ⟨R,0,none⟩)),(7,.pointer (some ⟨X,0,none⟩)),(8,.int .i64 (s.rows.length:Int)),(9,.int .i64 (c:Int)),(10,.pointer (some ⟨T,0,none⟩))] _;replace hA:=hA.ext bj;replace hZ:=hZ.ext bj;replace hR:=hR.ext bj;replace hX:=hX.ext bj;have ae:=bq.trans bj;have dw:=bj.size;have dx:=bi.size;have dy:=ao.size;obtain⟨S0,al⟩:∃S0:List Nat,∀x,x∈S0↔x=X∨x=T∨(lo≤x∧x<w.heap.size):=⟨X::T::List.range' lo (w.heap.size - lo),λx=>by simp only[Acf,AdO];omega⟩;obtain⟨S1,b5⟩:∃S1:List Nat,∀x,x∈S1↔lo≤x∧x<w.heap.size:=⟨List.range' lo (w.heap.size - lo),λx=>by simp only[AdO];omega⟩;have av:∀x,w.heap.size≤x→x∉S1:=λx hx hm=>by have:=(b5 x).1 hm;omega
 have dz:A∉S0:=λh=>by have:=(al A).1 h;omega
 have e1:R∉S0:=λh=>by have:=(al R).1 h;omega
 have fh:Z∉S0:=λh=>by have:=(al Z).1 h;omega
 have b6:∀x,DJ (rv k) s.rows (f k) x→x≠B:=λx hx e=>h.sub.apartV k s bm hs x hx Af9;have e2:B<w.heap.size:=(h.own.lt (b:=B) AeM).2;have e3:lo≤B:=(h.own.lt (b:=B) AeM).1;obtain⟨xs,b1,aw⟩:=d7.vals b6;rw[eq] at b1;have fi:s.rows.length≤qc:=K9 b1 _ _ _ rfl;have fj:=aw.1;rcases hk with rfl | rfl | rfl | rfl
 all_goals refine Sw ?_
 all_goals
  refine B6 (λh1=>?_) λh1=>?_
  ·refine Sw ?_;refine AR λw8 b2 b3=>?_;have a3:Ae w w8:=ae.step b2 Ae0;refine Sw ?_;exact QW.body_c rfl rfl b3 rfl rfl rfl ⟨⟨_,_,_,_,_,_,_,1,rfl,rfl,λh=>absurd h Ae2⟩,[],by simp,a3⟩
  refine Sw ?_;refine Av (λh2=>?_) λh2=>?_
  ·refine Sw ?_;refine AR λw8 b2 b3=>?_;have a3:Ae w w8:=ae.step b2 Ae0;refine Sw ?_;exact QW.body_c rfl rfl b3 rfl rfl rfl ⟨⟨_,_,_,_,_,_,_,_,rfl,rfl,λh=>absurd h Ae2⟩,[],by simp,a3⟩
  try (apply CW.seq;apply CW.region;refine Sl ?_;apply LW.nil;apply QW.then_n;first | refine Ca ?_ | refine Cb ?_ | refine Cc ?_)
  apply CW.skip;apply QW.blk_n;apply QW.then_n;refine CW.seq_cut (ι:=Unit) (λ_ w'=>∃s' rv' sh rv1 cv1 b' f',AJ s'=true∧s'.name=s.name∧Blk w' X (Ap s' rv') 41∧Me lo B w' rv' s'.rows∧sh.May∧sh.rows.to.length≤30∧sh.cols.to.length≤30∧X3 w6.heap.size w' T sh rv1 cv1∧BI lo w' (.slice (some ⟨B,0,none⟩) b.length cb) b' rv f'∧b'.length=b.length∧b'.set k s'=b.set k s'∧(∃t,b'[k]?=some t)∧Chg S0 w7 w') (λ_=>[(1,.int .i64 (k:Int)),(3,.pointer (some ⟨A,0,none⟩)),(6,.pointer (some ⟨R,0,none⟩)),(7,.pointer (some ⟨X,0,none⟩)),(10,.pointer (some ⟨T,0,none⟩))]) ?_ ?_;rotate_left
  ·rintro _ w8 ⟨s',rv',sh,rv1,cv1,b',f',d9,c6,fk,da,db,fl,fm,a4,ce,dc,cf,⟨t8,dd⟩,b2⟩;have de:=hA.chg b2 dz;have b3:=hR.chg b2 e1;have fn:k<b'.length:=Aez
   rw[←dc] at ce;obtain⟨-,⟨e0,-⟩ | ⟨g8,cap8,sp8,e8,e4,df,e5,cg⟩⟩:=ce.own
   ·cases e0
   obtain⟨e9,-,fo⟩:=Acd e8;obtain rfl:B=g8:=by have:=Aa5 e9;exact(Addr.mk.inj this).1
   obtain⟨p',c',rfl⟩:=Ao.slice da;refine Sw ?_;refine LW.store_agg (i:=k*3) (by show some (Value.pointer (some (Addr.add ⟨B,0,none⟩ (((k:Nat):Int).toNat*3))))=_;rw[An,show 0+((k:Nat):Int).toNat*3=k*3 by omega]) rfl rfl e4 (by rw[Aax,I0 (FV b' rv),IJ];show k*3+3≤_;omega) rfl rfl λw9 a1 dg=>?_;rw[show(Ap s' (.slice p' s'.rows.length c')).length=3 from rfl,Mj (FV b' rv) (Fx dd)] at dg;have dh:=ce.putSheet dd a1 dg (by rw[c6];exact h.names s (Aa9 hs)) da cg;rw[cf,dc] at dh;have e2:B<w.heap.size:=by
    have:=(h.own.lt (b:=B) AeM).2;exact this
   have a8:=a4.old a1 (λb hb=>by simp only[Aaw] at hb;omega) b0;replace de:=de.chg a1 Ae0;replace b3:=b3.chg a1 Ae0;have b4:=a8.blk;obtain⟨rp,rc,rfl⟩:=a8.rows.slice;obtain⟨cp,cc,rfl⟩:=a8.cols.slice;refine Sw ?_;refine CW.drawG (Ae w9) 6 (λw' h=>h) Ae1 λwa ad=>?_;refine BD ?_;refine DR 2 λhS=>?_;refine Cx λD wb e6 e7 hD=>?_;replace hD:Blk wb D (KZ sh (.slice rp sh.rows.to.length rc) (.slice cp sh.cols.to.length cc)) 73:=hD;have bk:=hS.trans e7;clear hS;apply LW.nil;refine QW.headed bk ?_;refine BD ?_;refine DR 3 λhS=>?_;refine Ax rfl rfl (PK (b.set k s') [sh] _ _ _ (Ak.ext (Ak.of dh) bk) (Vz hb hs c6 d9) (Xm hD ((A3.ints a8.rows rfl Aez).ext bk) ((A3.ints a8.cols rfl Aez).ext bk)) (λx hx=>by simp only[Aaw] at hx;rw[hx];exact db)) ?_;rintro v wc ⟨u,rv2,f2,rfl,di,ax⟩;obtain⟨up,uc,rfl⟩:=di.slice;have ea:=bk.trans ax;apply LW.nil;refine QW.headed ea ?_;refine BD ?_;refine GW.tail rfl Ae1 (λhS=>?_);replace b3:=b3.ext hS;have fp:=hS.size;refine AR λwd dj eb=>?_;have ec:=b2.size;have ed:=a1.size;have ee:=bk.size;have ef:=di.old dj Ae0;refine Sw ?_;refine QW.body_c rfl rfl eb rfl rfl rfl ⟨⟨_,_,_,_,_,_,_,0,rfl,rfl,λ_=>⟨I5 [sh] (b.set k s'),Uy (λx hx=>by simp only[Aaw] at hx;rw[hx];exact db) (Vz hb hs c6 d9),by rw[WD,Ob hs c6],Bq.low ef.fresh Aez⟩⟩,_,λx hx=>?_,Chg.trans ((Chg.trans (Chg.trans ae b2) a1).ext hS) dj⟩;simp only[Acb,AbB,Aaw,al] at hx;omega
 ·have bu:a≤s.rows.length:=by simp at h1;omega
  have c7:s.rows.length<24:=by simp at h2;omega
  refine Sw ?_;refine Ax rfl rfl (UX s.rows.length a Aez w7) ?_;rintro v w8 ⟨⟨tv,rfl,af⟩,a3⟩;obtain⟨tp,tc,rfl⟩:=af.slice;have a4:=hT.ext a3;have ci:=a3.size;have cj:=hT.blk.lt;have ap:T∉Ac (.slice tp (L8 s.rows.length a).to.length tc):=λhm=>by have:=(af.lt hm).1;omega
  obtain⟨cp0,cc0,rfl⟩:=a4.cols.slice;obtain⟨rp0,rc0,rfl⟩:=a4.rows.slice;have b4:=a4.blk;refine Sw ?_;refine LW.store_agg (i:=1) rfl rfl rfl b4 (by show 1+2≤6;omega) rfl rfl λw9 a1 a8=>?_;replace a8:X3 w6.heap.size w9 T ⟨s.name,L8 s.rows.length a,Cs c,false⟩ _ _:=⟨a8,(af.low Aez).chg a1 (λb hb hm=>by simp only[Aaw] at hm;exact ap (hm ▸ hb)),a4.cols.chg a1 (λb hb hm=>by simp only[Aaw] at hm;exact a4.nc (hm ▸ hb)),ap,a4.nc⟩;have ag:Chg S0 w7 w9:=(Chg.ext (Chg.refl S0 w7) a3).same (a1.mono λb hb _=>by simp only[Aaw] at hb;rw[hb];exact(al T).2 (.inr (.inl rfl)));have a5:Ae w w9:=(ae.trans a3).step a1 Ae0;have ac:=(hX.ext a3).chg a1 Ae0;have ah:=(hZ.ext a3).chg a1 Ae0;have ck:=a5.size;have cl:=a1.size;refine Sw ?_
  (apply LW.buildSlice0;exact rfl;exact rfl;exact rfl;exact rfl;intro L wa eg ad hL)
  replace ac:=ac.ext ad;replace ah:=ah.ext ad;refine Sw ?_;refine LW.slice_hi (j:=a) rfl rfl rfl rfl rfl Aez rfl ?_;refine LW.append_any (lo:=w9.heap.size) (xs:=[]) (news:=xs.take a) rfl rfl rfl rfl rfl rfl (⟨rfl,.inr ⟨L,0,[],rfl,hL,by simp,by simp,by omega⟩⟩) (by have:=ad.size;omega) (by rw[Ac3];show _=_*1;omega) (S5 (b1.ext (a5.trans ad)) bu) (aw.take a).cells (by show(0+_)*25≤_;omega) rfl ?_;intro v2 wb a9 am eh;have cm:=ad.size;have an:Ae w9 wb:=ad.step a9 AeC;simp only[Acb,AbW] at am;obtain⟨p2,c2,rfl⟩:=am.slice;replace ac:=ac.chg a9 AeC;replace ah:=ah.chg a9 AeC;have ei:=an.size;refine Sw ?_;refine Ax rfl rfl (Wn c Aez wb) ?_;rintro v wc ⟨E1,rfl,fq,hE,ax⟩;refine Sw ?_;refine Cx λD wd e6 ar hD=>?_;have fr:=ax.size;have fs:=ar.size;refine Sw ?_;refine LW.append (lo:=w9.heap.size) (k:=a) rfl rfl rfl rfl rfl rfl ((am.ext ax).ext ar) Aez hD rfl rfl rfl (by show(_+1)*25≤_;omega) rfl ?_;intro v4 we a6 c8 ej;have b7:Ae w9 we:=((an.trans ax).trans ar).step a6 (λb hb=>(am.lt hb).1);have ek:X∉Ac (.slice p2 a c2):=λhm=>by have:=(am.lt hm).1;omega
  have cn:Z∉Ac (.slice p2 a c2):=λhm=>by have:=(am.lt hm).1;omega
  have el:Blk we E1 ((List.replicate c []).map Am) 9:=(hE.ext ar).chg a6 (λhm=>by have:=(am.lt hm).2;omega);replace ac:=((ac.ext ax).ext ar).chg a6 ek;replace ah:=((ah.ext ax).ext ar).chg a6 cn;obtain⟨p4,c4,rfl⟩:=c8.slice;have ft:=b7.size;refine Sw ?_;refine LW.val rfl rfl rfl (Y.slice_from (i:=a) rfl rfl rfl rfl rfl Aez) ?_;refine LW.append_any (lo:=w9.heap.size) (k:=a+1) (m:=s.rows.length - (a)) (news:=xs.drop (a)) rfl rfl rfl rfl rfl rfl c8 Aez (by rw[AcO];show _=_*1;omega) (S4 (b1.ext (a5.trans b7)) Aez) (aw.drop _).cells (by show(_+_)*25≤_;omega) rfl ?_;intro v5 wf bl b8 em;have aa:Ae w9 wf:=b7.step bl (λb hb=>(c8.lt hb).1);replace ac:=ac.chg bl (λhm=>by have:=(c8.lt hm).1;omega);obtain⟨p5,c5,rfl⟩:=b8.slice;have en:=aa.size;refine Sw ?_;refine BO λwg au co=>?_;have b9:Chg S0 wf wg:=au.mono λb hb _=>by simp only[Aaw] at hb;rw[hb];exact(al X).2 (.inl rfl)
  have ai:Ae w wg:=(a5.trans aa).step au Ae0;have eo:=(el.chg bl (λhm=>(ej _ hm).elim (λh=>by have:=(am.lt h).2;omega) (λh=>by have:=hE.lt;omega))).chg au Ae0;have dk:=LY (lo:=lo) (B:=B) (c:=c) eo Ae0 Ae7 Aez Aez;rw[AcB] at dk;have h0:s.cols.toNat=c:=Aez
  have cq:Ch lo B wg (xs.take a++[.slice (some ⟨E1,0,none⟩) c c]++xs.drop a) (GQ s a).rows:=by
   unfold GQ;rw[h0];exact(((aw.take a).ext ai).app (Ch.one dk)).app ((aw.drop a).ext ai)
  have aj:(GQ s a).rows.length=a+1+(s.rows.length - a):=by simp[GQ];omega
  have bv:=b8.chg au (λb hb hm=>by simp only[Aaw] at hm;have:=(b8.lt hb).1;omega);rw[←aj] at bv;refine Sw ?_;refine QW.head () ⟨GQ s a,.slice p5 (GQ s a).rows.length c5,_,_,_,b,f,Uj bn c7,rfl,by rw[aj];exact co,cq.rows bv (by rw[aj];omega) Aez Aez,⟨RA Aez,Gn Aez⟩,?_,?_,(a8.ext aa).old au Ae0 b0,h.ext ai,rfl,rfl,⟨s,hs⟩,(ag.ext aa).same b9⟩ Cu
  all_goals simp only[Kx,Jm]
  all_goals omega
 ·have bu:a≤s.rows.length:=by simp at h1;omega
  have c7:a<s.rows.length:=by simp at h2;omega
  refine Sw ?_;refine Ax rfl rfl (UW s.rows.length a Aez w7) ?_;rintro v w8 ⟨⟨tv,rfl,af⟩,a3⟩;obtain⟨tp,tc,rfl⟩:=af.slice;have a4:=hT.ext a3;have ci:=a3.size;have cj:=hT.blk.lt;have ap:T∉Ac (.slice tp (L1 s.rows.length a).to.length tc):=λhm=>by have:=(af.lt hm).1;omega
  obtain⟨cp0,cc0,rfl⟩:=a4.cols.slice;obtain⟨rp0,rc0,rfl⟩:=a4.rows.slice;have b4:=a4.blk;refine Sw ?_;refine LW.store_agg (i:=1) rfl rfl rfl b4 (by show 1+2≤6;omega) rfl rfl λw9 a1 a8=>?_;replace a8:X3 w6.heap.size w9 T ⟨s.name,L1 s.rows.length a,Cs c,false⟩ _ _:=⟨a8,(af.low Aez).chg a1 (λb hb hm=>by simp only[Aaw] at hm;exact ap (hm ▸ hb)),a4.cols.chg a1 (λb hb hm=>by simp only[Aaw] at hm;exact a4.nc (hm ▸ hb)),ap,a4.nc⟩;have ag:Chg S0 w7 w9:=(Chg.ext (Chg.refl S0 w7) a3).same (a1.mono λb hb _=>by simp only[Aaw] at hb;rw[hb];exact(al T).2 (.inr (.inl rfl)));have a5:Ae w w9:=(ae.trans a3).step a1 Ae0;have ac:=(hX.ext a3).chg a1 Ae0;have ah:=(hZ.ext a3).chg a1 Ae0;have ck:=a5.size;have cl:=a1.size;refine Sw ?_
  (apply LW.buildSlice0;exact rfl;exact rfl;exact rfl;exact rfl;intro L wa eg ad hL)
  replace ac:=ac.ext ad;replace ah:=ah.ext ad;refine Sw ?_;refine LW.slice_hi (j:=a) rfl rfl rfl rfl rfl Aez rfl ?_;refine LW.append_any (lo:=w9.heap.size) (xs:=[]) (news:=xs.take a) rfl rfl rfl rfl rfl rfl (⟨rfl,.inr ⟨L,0,[],rfl,hL,by simp,by simp,by omega⟩⟩) (by have:=ad.size;omega) (by rw[Ac3];show _=_*1;omega) (S5 (b1.ext (a5.trans ad)) bu) (aw.take a).cells (by show(0+_)*25≤_;omega) rfl ?_;intro v2 wb a9 am eh;have cm:=ad.size;have an:Ae w9 wb:=ad.step a9 AeC;simp only[Acb,AbW] at am;obtain⟨p2,c2,rfl⟩:=am.slice;replace ac:=ac.chg a9 AeC;replace ah:=ah.chg a9 AeC;have ei:=an.size;refine Sw ?_;refine LW.val rfl rfl rfl (Y.slice_from (i:=a+1) rfl rfl rfl rfl rfl Aez) ?_;refine LW.append_any (lo:=w9.heap.size) (k:=a) (m:=s.rows.length - (a+1)) (news:=xs.drop (a+1)) rfl rfl rfl rfl rfl rfl am Aez (by rw[AcO];show _=_*1;omega) (S4 (b1.ext (a5.trans an)) Aez) (aw.drop _).cells (by show(_+_)*25≤_;omega) rfl ?_;intro v5 wf bl b8 em;have aa:Ae w9 wf:=an.step bl (λb hb=>(am.lt hb).1);replace ac:=ac.chg bl (λhm=>by have:=(am.lt hm).1;omega);obtain⟨p5,c5,rfl⟩:=b8.slice;have en:=aa.size;refine Sw ?_;refine BO λwg au co=>?_;have b9:Chg S0 wf wg:=au.mono λb hb _=>by simp only[Aaw] at hb;rw[hb];exact(al X).2 (.inl rfl)
  have ai:Ae w wg:=(a5.trans aa).step au Ae0;have cq:Ch lo B wg (xs.take a++xs.drop (a+1)) (Iw s a).rows:=((aw.take a).ext ai).app ((aw.drop (a+1)).ext ai);have aj:(Iw s a).rows.length=a+(s.rows.length - (a+1)):=by simp[Iw];omega
  have bv:=b8.chg au (λb hb hm=>by simp only[Aaw] at hm;have:=(b8.lt hb).1;omega);rw[←aj] at bv;refine Sw ?_;refine QW.head () ⟨Iw s a,.slice p5 (Iw s a).rows.length c5,_,_,_,b,f,Ua bn,rfl,by rw[aj];exact co,cq.rows bv (by rw[aj];omega) Aez Aez,⟨Ry Aez,Gn Aez⟩,?_,?_,(a8.ext aa).old au Ae0 b0,h.ext ai,rfl,rfl,⟨s,hs⟩,(ag.ext aa).same b9⟩ Cu
  all_goals simp only[Kr,Jm]
  all_goals omega
 ·have bu:a≤c:=by simp at h1;omega
  have c7:c<12:=by simp at h2;omega
  refine Sw ?_;refine Ax rfl rfl (UX c a Aez w7) ?_;rintro v w8 ⟨⟨tv,rfl,af⟩,a3⟩;obtain⟨tp,tc,rfl⟩:=af.slice;have a4:=hT.ext a3;have ci:=a3.size;have cj:=hT.blk.lt;have ap:T∉Ac (.slice tp (L8 c a).to.length tc):=λhm=>by have:=(af.lt hm).1;omega
  obtain⟨cp0,cc0,rfl⟩:=a4.cols.slice;obtain⟨rp0,rc0,rfl⟩:=a4.rows.slice;have b4:=a4.blk;refine Sw ?_;refine LW.store_agg (i:=3) rfl rfl rfl b4 (by show 3+2≤6;omega) rfl rfl λw9 a1 a8=>?_;replace a8:X3 w6.heap.size w9 T ⟨s.name,Cs s.rows.length,L8 c a,false⟩ _ _:=⟨a8,a4.rows.chg a1 (λb hb hm=>by simp only[Aaw] at hm;exact a4.nr (hm ▸ hb)),(af.low Aez).chg a1 (λb hb hm=>by simp only[Aaw] at hm;exact ap (hm ▸ hb)),a4.nr,ap⟩;have ag:Chg S0 w7 w9:=(Chg.ext (Chg.refl S0 w7) a3).same (a1.mono λb hb _=>by simp only[Aaw] at hb;rw[hb];exact(al T).2 (.inr (.inl rfl)));have a5:Ae w w9:=(ae.trans a3).step a1 Ae0;have ac:=(hX.ext a3).chg a1 Ae0;have ah:=(hZ.ext a3).chg a1 Ae0;have cl:=a1.size;refine Sw ?_;refine BO λwa ay ba=>?_;replace ba:Blk wa X (Ap (Qr s a) (.slice q s.rows.length qc)) 41:=ba;have cr:=ah.chg ay Ae0;have cs:=a8.old ay Ae0 b0;have aq:Ae w wa:=a5.step ay Ae0;have bb:Chg S0 w7 wa:=ag.same (ay.mono λb hb _=>by simp only[Aaw] at hb;rw[hb];exact(al X).2 (.inl rfl));have cm:=aq.size;have ct:BI lo wa (.slice (some ⟨B,0,none⟩) b.length cb) (C2 b k (DN (GI a) 0 s.rows)) rv f:=by rw[Hr,KG hs];exact h.ext aq
  refine Sw ?_;refine CW.loop (ι:=Nat) (λi w'=>i≤s.rows.length∧Chg S1 wa w'∧∃f',BI lo w' (.slice (some ⟨B,0,none⟩) b.length cb) (C2 b k (DN (GI a) i s.rows)) rv f') (λi=>[(1,.int .i64 (k:Int)),(3,.pointer (some ⟨A,0,none⟩)),(5,.pointer (some ⟨Z,0,none⟩)),(6,.pointer (some ⟨R,0,none⟩)),(7,.pointer (some ⟨X,0,none⟩)),(8,.int .i64 (s.rows.length:Int)),(10,.pointer (some ⟨T,0,none⟩)),(16,.int .i64 (i:Int))]) (λi=>s.rows.length - i) 0 ⟨Ac8 _,Chg.refl _ _,f,ct⟩ HA ?_;rintro i wb ⟨hi,a9,f',ak⟩;have cu:=ba.chg a9 (av X Aez);have ep:=cr.chg a9 (av Z Aez);refine Sw ?_;refine Av (λh3=>?_) λh3=>?_;rotate_left
  ·have h3:i=s.rows.length:=by simp at h3;omega
   subst h3;rw[I2] at ak;have cv:=ak.sub.rows k _ (by rw[BU];exact bm) (BL hs);have bw:=cv.aside (B:=B) λx hx e=>ak.sub.apartV k _ (by rw[BU];exact bm) (BL hs) x hx Af9;rw[eq] at bw;refine Sw ?_;refine QW.head () ⟨Qr s a,_,_,_,_,_,f',Ui bn Aez Aez,rfl,cu,bw,⟨Gn Aez,RA Aez⟩,?_,?_,cs.old a9 (λx hx=>by have:=(b5 x).1 hx;omega) b0,ak,BU _ _ _,Mw,⟨_,BL hs⟩,bb.same (a9.mono λx hx _=>(al x).2 (.inr (.inr ((b5 x).1 hx))))⟩ Cu
   all_goals simp only[Kx,Jm]
   all_goals omega
  have h3:i<s.rows.length:=by simp at h3;omega
  obtain⟨row,ab⟩:∃x,s.rows[i]?=some x:=⟨_,Aak h3⟩;have er:=(d6 row (Aa9 ab)).1;obtain⟨M,cap,xs',sp,eM,cw,bc,cx,es,bd,be,bf⟩:=ak.openRow (BL hs) (DW ab);simp only[D6] at eM cw bd;obtain⟨rfl,-,rfl⟩:=Acd (eq.symm.trans eM);obtain⟨u,cy,bx,cz⟩:=be i row (DW ab);obtain⟨p1,c1,rfl⟩:=bx.slice;have d0:M∈S1:=(b5 M).2 (b1.lt AeM);have et:=bc.lt;have eu:wb.cell? ((⟨M,0,none⟩:Addr).add (((i:Nat):Int).toNat*1))=some (.slice p1 row.length c1):=by
   rw[An,show 0+((i:Nat):Int).toNat*1=i by omega];exact bc.cell (by rw[Abg Aez];exact cy)
  have bg:CD wb (.slice p1 row.length c1) row:=Ao.map bx (λ_ _=>trivial) λ_ _ _ _ h=>h;refine Sw ?_;refine CW.drawG (Ae wb) 12 (λw' h=>h) Ae1 λwc ax=>?_;refine BD ?_;refine DR 10 λhS=>?_;refine Ax rfl rfl (Zm row p1 c1 a _ (bg.ext hS) Aez Aez (cz _ _ _ rfl)) ?_;rintro v wd ⟨bh,ar⟩;obtain⟨pd,cd,rfl⟩:=bh.slice;have d1:=hS.trans ar;have ew:=hS.size;clear hS;apply LW.nil;refine QW.headed d1 ?_;refine BD ?_;refine GW.tail rfl Ae1 (λhS=>?_);refine LW.store (i:=i) (by show some (Value.pointer (some (Addr.add ⟨M,0,none⟩ (((i:Nat):Int).toNat*1))))=_;rw[An,show 0+((i:Nat):Int).toNat*1=i by omega]) rfl rfl (bc.ext hS) (Acw (by rw[Aax];omega)) rfl rfl λwe a6 d2=>?_;obtain⟨g,d4,bz⟩:=EY bh (by simp[GI];omega) (λt ht=>by
   simp only[GI,AbB,Aaw] at ht;rcases ht with (ht | rfl) | ht
   ·exact F0 bg t (Ac5 ht)
   ·simp
   ·exact F0 bg t (AcM ht))
  have c0:=bf we _ (GI a row) g ((Ae.chg hS).same a6) d2 (d4.chg a6 λhn x hx hm=>by simp only[Aaw] at hm;have:=(bz hn).1;rw[hx] at hm;simp only at hm;omega) (K9 bh) (λhn=>by
   obtain⟨ex,sq,d5⟩:=bz hn;refine⟨by omega,⟨sq,d5.chg a6 Ae0⟩,λhm=>?_,λj t' ht hu=>?_⟩
   ·have:=(ak.own.lt hm).2;omega
   ·have:=((ak.sub.rows j t' (Aav.1 ht).1 ht).lt hu).2;omega)
  simp only[Mx,I3 ab] at c0;refine Sw ?_;exact QW.again (i+1) ⟨by omega,(a9.ext hS).same (a6.mono λx hx _=>by simp only[Aaw] at hx;rw[hx];exact d0),_,c0⟩ HA Aez
 ·have bu:a≤c:=by simp at h1;omega
  have c7:a<c:=by simp at h2;omega
  refine Sw ?_;refine Ax rfl rfl (UW c a Aez w7) ?_;rintro v w8 ⟨⟨tv,rfl,af⟩,a3⟩;obtain⟨tp,tc,rfl⟩:=af.slice;have a4:=hT.ext a3;have ci:=a3.size;have cj:=hT.blk.lt;have ap:T∉Ac (.slice tp (L1 c a).to.length tc):=λhm=>by have:=(af.lt hm).1;omega
  obtain⟨cp0,cc0,rfl⟩:=a4.cols.slice;obtain⟨rp0,rc0,rfl⟩:=a4.rows.slice;have b4:=a4.blk;refine Sw ?_;refine LW.store_agg (i:=3) rfl rfl rfl b4 (by show 3+2≤6;omega) rfl rfl λw9 a1 a8=>?_;replace a8:X3 w6.heap.size w9 T ⟨s.name,Cs s.rows.length,L1 c a,false⟩ _ _:=⟨a8,a4.rows.chg a1 (λb hb hm=>by simp only[Aaw] at hm;exact a4.nr (hm ▸ hb)),(af.low Aez).chg a1 (λb hb hm=>by simp only[Aaw] at hm;exact ap (hm ▸ hb)),a4.nr,ap⟩;have ag:Chg S0 w7 w9:=(Chg.ext (Chg.refl S0 w7) a3).same (a1.mono λb hb _=>by simp only[Aaw] at hb;rw[hb];exact(al T).2 (.inr (.inl rfl)));have a5:Ae w w9:=(ae.trans a3).step a1 Ae0;have ac:=(hX.ext a3).chg a1 Ae0;have ah:=(hZ.ext a3).chg a1 Ae0;have cl:=a1.size;refine Sw ?_;refine BO λwa ay ba=>?_;replace ba:Blk wa X (Ap (PS s a) (.slice q s.rows.length qc)) 41:=ba;have cr:=ah.chg ay Ae0;have cs:=a8.old ay Ae0 b0;have aq:Ae w wa:=a5.step ay Ae0;have bb:Chg S0 w7 wa:=ag.same (ay.mono λb hb _=>by simp only[Aaw] at hb;rw[hb];exact(al X).2 (.inl rfl));have cm:=aq.size;have ct:BI lo wa (.slice (some ⟨B,0,none⟩) b.length cb) (C2 b k (DN (G4 a) 0 s.rows)) rv f:=by rw[Hr,KG hs];exact h.ext aq
  refine Sw ?_;refine CW.loop (ι:=Nat) (λi w'=>i≤s.rows.length∧Chg S1 wa w'∧∃f',BI lo w' (.slice (some ⟨B,0,none⟩) b.length cb) (C2 b k (DN (G4 a) i s.rows)) rv f') (λi=>[(1,.int .i64 (k:Int)),(3,.pointer (some ⟨A,0,none⟩)),(5,.pointer (some ⟨Z,0,none⟩)),(6,.pointer (some ⟨R,0,none⟩)),(7,.pointer (some ⟨X,0,none⟩)),(8,.int .i64 (s.rows.length:Int)),(10,.pointer (some ⟨T,0,none⟩)),(17,.int .i64 (i:Int))]) (λi=>s.rows.length - i) 0 ⟨Ac8 _,Chg.refl _ _,f,ct⟩ HA ?_;rintro i wb ⟨hi,a9,f',ak⟩;have cu:=ba.chg a9 (av X Aez);have ep:=cr.chg a9 (av Z Aez);refine Sw ?_;refine Av (λh3=>?_) λh3=>?_;rotate_left
  ·have h3:i=s.rows.length:=by simp at h3;omega
   subst h3;rw[I2] at ak;have cv:=ak.sub.rows k _ (by rw[BU];exact bm) (BL hs);have bw:=cv.aside (B:=B) λx hx e=>ak.sub.apartV k _ (by rw[BU];exact bm) (BL hs) x hx Af9;rw[eq] at bw;refine Sw ?_;refine QW.head () ⟨PS s a,_,_,_,_,_,f',TZ bn Aez,rfl,cu,bw,⟨Gn Aez,Ry Aez⟩,?_,?_,cs.old a9 (λx hx=>by have:=(b5 x).1 hx;omega) b0,ak,BU _ _ _,Mw,⟨_,BL hs⟩,bb.same (a9.mono λx hx _=>(al x).2 (.inr (.inr ((b5 x).1 hx))))⟩ Cu
   all_goals simp only[Kr,Jm]
   all_goals omega
  have h3:i<s.rows.length:=by simp at h3;omega
  obtain⟨row,ab⟩:∃x,s.rows[i]?=some x:=⟨_,Aak h3⟩;have er:=(d6 row (Aa9 ab)).1;obtain⟨M,cap,xs',sp,eM,cw,bc,cx,es,bd,be,bf⟩:=ak.openRow (BL hs) (DW ab);simp only[D6] at eM cw bd;obtain⟨rfl,-,rfl⟩:=Acd (eq.symm.trans eM);obtain⟨u,cy,bx,cz⟩:=be i row (DW ab);obtain⟨p1,c1,rfl⟩:=bx.slice;have d0:M∈S1:=(b5 M).2 (b1.lt AeM);have et:=bc.lt;have eu:wb.cell? ((⟨M,0,none⟩:Addr).add (((i:Nat):Int).toNat*1))=some (.slice p1 row.length c1):=by
   rw[An,show 0+((i:Nat):Int).toNat*1=i by omega];exact bc.cell (by rw[Abg Aez];exact cy)
  have bg:CD wb (.slice p1 row.length c1) row:=Ao.map bx (λ_ _=>trivial) λ_ _ _ _ h=>h;refine Sw ?_;refine CW.drawG (Ae wb) 12 (λw' h=>h) Ae1 λwc ax=>?_;refine BD ?_;refine DR 10 λhS=>?_;refine Ax rfl rfl (T5 row p1 c1 a _ (bg.ext hS) Aez Aez (cz _ _ _ rfl)) ?_;rintro v wd ⟨bh,ar⟩;obtain⟨pd,cd,rfl⟩:=bh.slice;have d1:=hS.trans ar;have ew:=hS.size;clear hS;apply LW.nil;refine QW.headed d1 ?_;refine BD ?_;refine GW.tail rfl Ae1 (λhS=>?_);refine LW.store (i:=i) (by show some (Value.pointer (some (Addr.add ⟨M,0,none⟩ (((i:Nat):Int).toNat*1))))=_;rw[An,show 0+((i:Nat):Int).toNat*1=i by omega]) rfl rfl (bc.ext hS) (Acw (by rw[Aax];omega)) rfl rfl λwe a6 d2=>?_;obtain⟨g,d4,bz⟩:=EY bh (by simp[G4];omega) (λt ht=>by
   simp only[G4,AbB] at ht;rcases ht with ht | ht
   ·exact F0 bg t (Ac5 ht)
   ·exact F0 bg t (AcM ht))
  have c0:=bf we _ (G4 a row) g ((Ae.chg hS).same a6) d2 (d4.chg a6 λhn x hx hm=>by simp only[Aaw] at hm;have:=(bz hn).1;rw[hx] at hm;simp only at hm;omega) (K9 bh) (λhn=>by
   obtain⟨ex,sq,d5⟩:=bz hn;refine⟨by omega,⟨sq,d5.chg a6 Ae0⟩,λhm=>?_,λj t' ht hu=>?_⟩
   ·have:=(ak.own.lt hm).2;omega
   ·have:=((ak.sub.rows j t' (Aav.1 ht).1 ht).lt hu).2;omega)
  simp only[Mx,I3 ab] at c0;refine Sw ?_;exact QW.again (i+1) ⟨by omega,(a9.ext hS).same (a6.mono λx hx _=>by simp only[Aaw] at hx;rw[hx];exact d0),_,c0⟩ HA Aez
set_option maxRecDepth 8000 in
set_option maxHeartbeats 8000000 in
theorem VW(b:Ag)(bv:Value)(k kd a:Nat)(s:Af)(w:World)(h:B5 w bv b)(hb:A5 b=true)(hs:b[k]?=some s)(hk:kd=3∨kd=4∨kd=5∨kd=6)(ha:a≤1000) :
  AF prog 76 [.agg ⟨[bv]⟩,.agg ⟨Tq kd s.name a⟩] w (λv w'=>Vb w.heap.size b v w'∧Ae w w'):=by
 obtain⟨p,c,rfl⟩:=Ao.slice h;have ab:IW b s.name=some k:=TI (AP.1 hb).2.2 hs;refine AQ func76 ntmps76 ?_;apply CW.seq;apply CW.region;refine Sl ?_;refine Dq λA w1 al a8 hA=>?_;replace hA:Blk w1 A [.slice p b.length c] 29:=hA;refine Sa ?_;refine Dq λZ w2 am a7 hZ=>?_;replace hZ:Blk w2 Z (Tq kd s.name a) 96:=hZ;refine Sa ?_;refine BX λR w3 an a6 hR=>?_;have ao:=hR.lt;have a2:=(a8.trans a7).trans a6;replace hA:=(hA.ext a7).ext a6;replace hZ:=hZ.ext a6;refine Sw ?_;refine Ax rfl rfl (KH b _ w3 (Ak.ext h a2)) ?_;rintro v w4 ⟨rfl,a3⟩;rw[hb];replace hA:=hA.ext a3;replace hZ:=hZ.ext a3;replace hR:=hR.ext a3;have a0:=a2.trans a3;have ap:=a8.size;have aq:=a7.size;have ar:=a6.size;rcases hk with rfl | rfl | rfl | rfl
 all_goals
  refine Sw ?_;refine Ax rfl rfl (LO b _ _ w4 (Ak.ext h a0)) ?_;rintro v w5 ⟨rfl,a4⟩;rw[ab,show Qq (some k)=(k:Int) from rfl];have hA:=hA.ext a4;have hZ:=hZ.ext a4;have hR:=hR.ext a4;have a1:=a0.trans a4;refine Sw ?_;refine CW.drawG (Ae w5) 5 (λw' h=>h) Ae1 λwa au=>?_;refine BD ?_;refine DR 1 λhS=>?_;refine Ax rfl rfl (H8 b _ wa (Ak.ext h (a1.trans hS))) ?_;rintro v wb ⟨u,rv,f,rfl,hF,a9⟩;obtain⟨B,cb,sp,rfl,-,-⟩:=hF.own.get (by have:=(Aav.1 hs).1;omega);have ac:=hS.trans a9;have av:=hS.size;have aw:=a9.size;clear hS;apply LW.nil;refine QW.headed ac ?_;refine BD ?_;refine DR 4 λhS=>?_;refine Ax rfl rfl (WA b k _ a wa.heap.size B cb rv f s wb hF hb hs Ae7 ha Aez) ?_;rintro v wc ⟨⟨u,sn,rt,rn,ct,cn,g,e,rfl,a5,he⟩,S,ad,hc⟩;have ae:=Chg.step hS hc (λx hx=>by have:=ad x hx;omega);clear hS;apply LW.nil;refine QW.headed ae ?_;refine GW.tail rfl Ae1 (λhS=>?_);replace hR:=hR.ext hS;have ax:=a1.size;have ay:=a0.size;have az:=hS.size;refine LW.store_all rfl rfl a5 hR rfl rfl rfl λwd aa af=>?_;refine Sw ?_;refine QW.body_c rfl rfl af rfl rfl rfl ⟨⟨u,sn,rt,rn,ct,cn,g,e,rfl,a5,λh0=>?_⟩,(a1.trans hS).step aa Ae0⟩;obtain⟨b',ag,ah,ai⟩:=he h0;have aj:=a4.size;have ak:=a3.size;exact⟨b',ag,ah,Bq.low (ai.old aa Ae0) Aez⟩
end Go.Proofs.YtefaigjfkddelaaGreatDoor
