/-
  Joined by program out of the texts Bla1 Bla2 Rep Blb1 Blb2 BlaL Pas1 BlaM.
-/
import Derived.Test.YtefaigjfkddelaaGreatDoorRkL
import Derived.Test.YtefaigjfkddelaaGreatDoorRkM
import Derived.Test.YtefaigjfkddelaaGreatDoorRkJ
import Derived.Test.YtefaigjfkddelaaGreatDoorRkI
import Derived.Test.YtefaigjfkddelaaGreatDoorRkA
import Derived.Test.YtefaigjfkddelaaGreatDoorRkH
import Derived.Test.YtefaigjfkddelaaGreatDoorRkE
namespace Go.Proofs.YtefaigjfkddelaaGreatDoor
open Go Go.E
theorem CN {s:Aq} (h:CG s=true):Cf s:=by
 simp only [CG,Bool.and_eq_true,decide_eq_true_eq,List.all_eq_true] at h;obtain ⟨⟨⟨⟨h1,h2⟩,h3⟩,h4⟩,h5⟩:=h;exact ⟨by omega,⟨h2,by omega⟩,λr hr=>(h5 r hr).1,λr hr t ht=>by have:=PO ((h5 r hr).2 t ht);omega⟩
theorem C5 {b:A1} (h:Bu b=true) {i:Nat} {s:Aq} (hs:b[i]?=some s):CG s=true:=(CM.1 h).2.1 s (List.mem_of_getElem? hs)
theorem Og {p c:A1} (hp:Bu p=true) (hc:Bu c=true):∀s∈A4 p c,s.May:=λsh hsh=>by
 obtain ⟨i,hi⟩:=List.getElem?_of_mem hsh;have hil:i<p.length:=by have:=(List.getElem?_eq_some_iff.1 hi).1;rwa [C0] at this
 obtain ⟨s,hs⟩:∃s,p[i]?=some s:=⟨_,List.getElem?_eq_getElem hil⟩;rw [FE hs] at hi;obtain rfl:=Option.some.inj hi;have a0:CB.May ⟨s.name,⟨[],0⟩,⟨[],0⟩,true⟩:=⟨rfl,rfl⟩
 split
 ·exact a0
 ·rename_i k hk
  split
  ·exact a0
  ·rename_i u hu;exact RH (C5 hp hs) (C5 hc hu)
theorem Nz {s:CB} (h:s.May):s.rows.to.length≤1048576∧s.cols.to.length≤1048576:=by
 obtain ⟨h1,h2⟩:=h;simp only [M1,Bool.and_eq_true,decide_eq_true_eq] at h1 h2;exact ⟨h1.1.2,h2.1.2⟩
theorem LQ {w:World} {A:Nat} {cs:List Value} {T:TypeId} {sv:Value} (h:Blk w A cs T) (hc:cs[2]?=some sv):∀j u,([sv]:List Value)[j]?=some u→w.cell? ((⟨A,2,none⟩:Addr).add j)=some u:=λj u hj=>by
 cases j with
 | zero=>
  obtain rfl:=Option.some.inj hj;rw [A0]
  exact h.cell hc
 | succ j=>simp at hj
set_option maxRecDepth 8000 in
set_option maxHeartbeats 8000000 in
theorem WO (P C:AV) (pq cq bp dp:Option Addr) (pm pn cm' cn bc dc:Nat) (had:AD) (hv:Value) (w:World) (hp:Cs w (.slice bp P.book.length bc) P.book) (hc:Cs w (.slice dp C.book.length dc) C.book) (hmp:Bu P.book=true) (hmc:Bu C.book=true) (hid:C.id.length≤1000000) (hh:ET w hv had) (hfit:D4 had P.book) :
  AA Tryz.prog 35 [.agg ⟨BR P (.slice pq pm pn) (.slice bp P.book.length bc)⟩,.agg ⟨BR C (.slice cq cm' cn) (.slice dp C.book.length dc)⟩,hv] w (λv w'=>∃rv f,Bk w.heap.size w' v (HM P.book C.book C.id had) rv f∧Ae w w'):=by
 obtain ⟨aj,ak,rfl⟩:=hh.slice;have ek:=(CM.1 hmp).1;have em:=(CM.1 hmc).1;have b1:=Og hmp hmc;refine AL Tryz.func35 Tryz.ntmps35 ?_;apply CW.seq;apply CW.region;refine Sl ?_;refine CZ λA w1 en d0 hA=>?_;replace hA:Blk w1 A (BR P (.slice pq pm pn) (.slice bp P.book.length bc)) 31:=hA;refine Sl ?_;refine CZ λB w2 eo cb hB=>?_;replace hB:Blk w2 B (BR C (.slice cq cm' cn) (.slice dp C.book.length dc)) 31:=hB;replace hA:=hA.ext cb;have al:=d0.trans cb;have ep:=hA.lt;have er:=hB.lt;refine Sa ?_;refine LW.load_cells rfl (LQ hB rfl) rfl rfl rfl rfl ?_;refine Sa ?_;refine Ap rfl rfl (Oe C.book _ C.id w2 (hc.ext al) hid) ?_;rintro ov w3 ⟨rv,f,br,bl⟩;obtain ⟨op,oc,rfl⟩:=br.slice;rw [Fz] at *;replace hA:=hA.ext bl;replace hB:=hB.ext bl;have bs:=al.trans bl;have cd:=al.size;have es:=bl.size;refine Sa ?_;refine CW.loop (ι:=Nat×Value) (λx w'=>x.1≤P.book.length∧Ae w3 w'∧Nm w3.heap.size w' x.2 ((A4 P.book C.book).take x.1)) (λx=>[(2,.slice aj had.length ak),(3,.pointer (some ⟨A,0,none⟩)),(4,.pointer (some ⟨B,0,none⟩)),(7,.slice op C.book.length oc),(8,x.2),(9,.int .i64 x.1)]) (λx=>P.book.length - x.1) (0,.slice none 0 0) ⟨Nat.zero_le _,Chg.refl _ _,Nm.nil⟩ BQ ?_;rintro ⟨i,sv⟩ w4 ⟨hi,am,aw⟩;dsimp only at hi aw;show CW _ _ _ _ _ [(2,.slice aj had.length ak),(3,.pointer (some ⟨A,0,none⟩)),(4,.pointer (some ⟨B,0,none⟩)),(7,.slice op C.book.length oc),(8,sv),(9,.int .i64 (i:Int))] _;replace hA:=hA.ext am;replace hB:=hB.ext am;have ab:=bs.trans am;have eu:=am.size;refine Sw ?_;refine Am (λh1=>?_) λh1=>?_
 ·have h1:i<P.book.length:=by simp at h1;omega
  obtain ⟨s,hs⟩:∃s,P.book[i]?=some s:=⟨_,List.getElem?_eq_getElem h1⟩;obtain ⟨a,q,k,rfl,-,d1,hr,a1⟩:=Ak.at (Ak.ext hp ab) hs;have d2:=a1 0 _ rfl;have d4:=FE (c:=C.book) hs;obtain ⟨et,el⟩:=L4 d4;refine Sw ?_;refine CW.drawG (Ae w4) 10 (λw' h=>h) (by kernel_rfl) λwa d5=>?_;refine Bp ?_;refine GW.take 1 rfl rfl rfl rfl (λw' d6=>Y.load_cells rfl (LQ (hB.ext d6) rfl) rfl rfl rfl) rfl rfl (by kernel_rfl) (by kernel_rfl) (by kernel_rfl) (λ_ _ _ h=>h) ?_;refine Bp ?_;refine CX 9 λhS=>?_;refine Ap rfl rfl (NY C.book _ s.name _ (hc.ext (ab.trans hS))) ?_;rintro v w5 ⟨rfl,d7⟩;have b2:=hS.trans d7;clear hS;apply LW.nil;refine QW.headed b2 ?_;refine GW.tail rfl (by kernel_rfl) (λhS=>?_);have a4:=ab.trans hS;replace hA:=hA.ext hS;replace hB:=hB.ext hS;obtain ⟨css,g1,g2,g3,g4⟩:=aw;rw [el] at g3;have ew:=hS.size
  cases hk:N5 C.book s.name with
  | none=>
   rw [hk] at et;simp only at et;have ax:=Aw hS d2;refine Sw ?_;refine Cl λD w6 d8 ac hD=>?_;have d9:=ac.size;replace hD:Blk w6 D (KK ⟨s.name,⟨[],0⟩,⟨[],0⟩,true⟩ (.slice none 0 0) (.slice none 0 0)) 73:=hD;refine Sa ?_;refine LW.append (lo:=w3.heap.size) (k:=i) rfl rfl rfl rfl rfl rfl ((g3.ext hS).ext ac) (by omega) hD rfl rfl rfl (by show (_+1)*89≤_;omega) rfl ?_;intro v7 w7 bm da db;have ag:=Nm.snoc (s:=⟨s.name,⟨[],0⟩,⟨[],0⟩,true⟩) g1 g2 g4 (hS.trans ac) (E.Ax.nil _ _ _ _) (E.Ax.nil _ _ _ _) (by simp [Af]) (by simp [Af]) bm db (by rw [el];exact da);rw [et] at ag;refine Sa ?_
   exact QW.again (i+1,v7) ⟨by show i+1≤_;omega,((am.trans hS).trans ac).step bm (λb hb=>(g3.lt hb).1),ag⟩ BQ (by show P.book.length - (i+1)<P.book.length - i;omega)
  | some k'=>
   obtain ⟨u,hu,ex⟩:=Jg hk;rw [hk] at et;simp only [hu] at et;have dd:=(List.getElem?_eq_some_iff.1 hu).1;obtain ⟨a2,q2,k2,eq2,-,de,bt,a5⟩:=Ak.at (Ak.ext hc a4) hu;subst eq2;have bu:∀j u,(AB s (.slice q s.rows.length k))[j]?=some u→w5.cell? ((a.add (((i:Nat):Int).toNat*3)).add j)=some u:=λj u hj=>Aw hS (a1 j u hj);have ay:=CN (C5 hmp hs);have an:=CN (C5 hmc hu);rw [show Ro (some k')=(k':Int) from rfl];refine Sw ?_;refine CW.drawG (Ae w5) 15 (λw' h=>h) (by kernel_rfl) λwb df=>?_;clear hS;refine Bp ?_;refine CX 13 λhS=>?_;refine Ap rfl rfl (Qy s u _ _ _ (AJ.ext hr (b2.trans hS)) (AJ.ext bt hS) ay an) ?_;rintro v w6 ⟨ru,cu,rfl,o1,o2,ac⟩;obtain ⟨rp,rc,rfl⟩:=o1.slice;obtain ⟨cp,cc,rfl⟩:=o2.slice;have ey:=hS.size;have bv:=hS.trans ac;clear hS;apply LW.nil;refine QW.headed bv ?_;refine Bp ?_;refine CX 14 λhS=>?_;clear hS;refine Cl λD w7 d8 bn hD=>?_;have ez:=bn.size;replace hD:Blk w7 D (KK (A5 s u) (.slice rp s.rows.length rc) (.slice cp s.cols.toNat cc)) 73:=hD;have ag:=bv.trans bn;apply LW.nil;refine QW.headed ag ?_;refine GW.tail rfl (by kernel_rfl) (λhS=>?_);have dg:=ag.size;refine LW.append (lo:=w3.heap.size) (k:=i) rfl rfl rfl rfl rfl rfl ((g3.ext b2).ext ag) (by omega) hD rfl rfl rfl (by show (_+1)*89≤_;omega) rfl ?_;intro v8 w8 ce dh di;have dj:=bv.size;have b3:∀b,wb.heap.size≤b→b∉Af sv:=λb hb hm=>by have:=(g3.lt hm).2;omega
   have o1':E.Ax w7 w3.heap.size 3 1 (.slice rp s.rows.length rc) (A5 s u).rows.to.length (Ac (A5 s u).rows.to):=by
    rw [show (A5 s u).rows.to.length=s.rows.length from Cq s u];exact (o1.ext bn).low (by omega)
   have o2':E.Ax w7 w3.heap.size 3 1 (.slice cp s.cols.toNat cc) (A5 s u).cols.to.length (Ac (A5 s u).cols.to):=by
    rw [show (A5 s u).cols.to.length=s.cols.toNat from F3 s u _];exact (o2.ext bn).low (by omega)
   have cf:=Nm.snoc (s:=A5 s u) g1 g2 g4 (b2.trans ag) o1' o2' (λb hb=>b3 b (o1.lt hb).1) (λb hb=>b3 b (o2.lt hb).1) ce di (by rw [el];exact dh);rw [et] at cf;refine Sa ?_;exact QW.again (i+1,v8) ⟨by show i+1≤_;omega,((am.trans b2).trans ag).step ce (λb hb=>(g3.lt hb).1),cf⟩ BQ (by show P.book.length - (i+1)<P.book.length - i;omega)
 have h1:i=P.book.length:=by simp at h1;omega
 subst h1;rw [List.take_of_length_le (by rw [C0];exact Nat.le_refl _)] at aw;have dk:=br.ext am;obtain ⟨sp,sc,rfl⟩:=Dg.slice aw;rw [C0] at aw;rw [C0];obtain ⟨S0,az⟩:∃S0:List Nat,∀b,b∈S0↔w2.heap.size≤b∧b<w3.heap.size:=⟨List.range' w2.heap.size (w3.heap.size - w2.heap.size),λb=>by rw [List.mem_range'_1];omega⟩;have dl:=HS C.book C.id;have bw:A∉S0:=λh=>by have:=(az A).1 h;omega
 have bx:B∉S0:=λh=>by have:=(az B).1 h;omega
 have cg:∀w',Chg S0 w4 w'→BZ w' (.slice sp P.book.length sc) (A4 P.book C.book):=λw' hx=>(aw.chg hx (λb hb=>((az b).1 hb).2)).list (by rw [C0];omega) (λs hs=>by have:=Nz (b1 s hs);omega);have ad:∀w',Chg S0 w4 w'→Ae w w':=λw' hx=>ab.step hx (λb hb=>by have:=(az b).1 hb;omega);refine Sa ?_;refine CW.loop (ι:=Nat) (λi w'=>i≤P.book.length∧Chg S0 w4 w'∧Bk w2.heap.size w' (.slice op C.book.length oc) (DI P.book C.book had i (GD C.book C.id)) rv f) (λi=>[(2,.slice aj had.length ak),(3,.pointer (some ⟨A,0,none⟩)),(4,.pointer (some ⟨B,0,none⟩)),(7,.slice op C.book.length oc),(8,.slice sp P.book.length sc),(11,.int .i64 i)]) (λi=>P.book.length - i) 0 ⟨Nat.zero_le _,Chg.refl _ _,dk⟩ BQ ?_;rintro i w5 ⟨hi,ax,b0⟩;have dm:=hA.chg ax bw;have dn:=hB.chg ax bx;have a4:=ad _ ax;have f0:=ax.size;refine Sw ?_;refine Am (λh1=>?_) λh1=>?_;rotate_left
 ·have h1:i=P.book.length:=by simp at h1;omega
  subst h1;refine Sw ?_;exact QW.body1 Tryz.results35 rfl ⟨rv,f,⟨b0.own.low cd,b0.small,⟨λj s hj hs=>(b0.sub.rows j s hj hs).low cd,b0.sub.apartV,b0.sub.apart⟩⟩,a4⟩
 have h1:i<P.book.length:=by simp at h1;omega
 obtain ⟨s,hs⟩:∃s,P.book[i]?=some s:=⟨_,List.getElem?_eq_getElem h1⟩;obtain ⟨a,q,k,eqb,-,d1,hr,ao⟩:=Ak.at hp hs;subst eqb;have a1:∀j u,(AB s (.slice q s.rows.length k))[j]?=some u→w5.cell? ((a.add (((i:Nat):Int).toNat*3)).add j)=some u:=λj u hj=>Aw a4 (ao j u hj);have ay:=CN (C5 hmp hs);have f1:=ay.rows;refine Sa ?_;refine Lo ?_;refine LW.load_cells rfl a1 rfl rfl rfl rfl ?_;refine Sa ?_;refine BP λX w6 f2 ac hX=>?_;have f3:=hX.lt;have d9:=ac.size;refine Sa ?_;refine AM λw7 bm hX=>?_;replace hX:Blk w7 X (AB s (.slice q s.rows.length k)) 41:=hX;have ae:Ae w5 w7:=ac.step bm (by simp;omega);have dq:=dm.ext ae;have ci:=dn.ext ae;have cj:X∉S0:=λh=>by have:=(az X).1 h;omega
 refine Sa ?_;refine LW.load_cells rfl (LQ ci rfl) rfl rfl rfl rfl ?_;refine Sa ?_;refine Ap rfl rfl (NY C.book _ s.name _ (hc.ext (a4.trans ae))) ?_;rintro v w8 ⟨rfl,bo⟩;have b4:=ae.trans bo;have b5:Chg S0 w4 w8:=ax.ext b4;have bz:=b0.ext b4
 cases hk:N5 C.book s.name with
 | none=>
  refine Sw ?_
  exact QW.again (i+1) ⟨by omega,b5,by show Bk _ _ _ (DI P.book C.book had (i+1) _) _ _;rw [Mm hs hk];exact bz⟩ BQ (by omega)
 | some k'=>
  obtain ⟨u,hu,-⟩:=Jg hk;have dd:=(List.getElem?_eq_some_iff.1 hu).1;have an:=CN (C5 hmc hu);have ck:(A4 P.book C.book)[i]?=some (A5 s u):=by
   rw [FE hs,hk];simp only [hu]
  have cl:D4 (DI P.book C.book had i (GD C.book C.id)) C.book:=Ml dl;obtain ⟨t0,cm⟩:∃t0,DI P.book C.book had i (GD C.book C.id)=t0:=⟨_,rfl⟩;rw [cm] at bz cl;rw [show Ro (some k')=(k':Int) from rfl];replace hX:=hX.ext bo;have dr:=dq.ext bo;have ds:=ci.ext bo;refine Sw ?_;refine CW.loop (ι:=Nat) (λr w'=>r≤s.rows.length∧Chg S0 w8 w'∧Bk w2.heap.size w' (.slice op C.book.length oc) (FP C.book (A4 P.book C.book) had i k' s (A5 s u) r t0) rv f) (λr=>[(2,.slice aj had.length ak),(3,.pointer (some ⟨A,0,none⟩)),(4,.pointer (some ⟨B,0,none⟩)),(7,.slice op C.book.length oc),(8,.slice sp P.book.length sc),(11,.int .i64 i),(12,.pointer (some ⟨X,0,none⟩)),(13,.int .i64 k'),(14,.int .i64 r)]) (λr=>s.rows.length - r) 0 ⟨Nat.zero_le _,Chg.refl _ _,bz⟩ O0 ?_;rintro r w9 ⟨f4,b6,c0⟩;have b7:=b5.same b6;have dt:=hX.chg b6 cj;have du:=dr.chg b6 bw;have dv:=ds.chg b6 bx;refine Sw ?_;refine Am (λh2=>?_) λh2=>?_;rotate_left
  ·have h2:r=s.rows.length:=by simp at h2;omega
   subst h2;refine Sw ?_;exact QW.again (i+1) ⟨by omega,b7,by show Bk _ _ _ (DI P.book C.book had (i+1) _) _ _;rw [Mn hs hk ck,cm];exact c0⟩ BQ (by omega)
  have h2:r<s.rows.length:=by simp at h2;omega
  obtain ⟨row,af⟩:∃r',s.rows[r]?=some r':=⟨_,List.getElem?_eq_getElem h2⟩;have co:=ay.wide row (List.mem_of_getElem? af);have f5:=ay.cols;have b8:D4 (FP C.book (A4 P.book C.book) had i k' s (A5 s u) r t0) C.book:=I9 cl;obtain ⟨t1,cr⟩:∃t1,FP C.book (A4 P.book C.book) had i k' s (A5 s u) r t0=t1:=⟨_,rfl⟩;rw [cr] at c0 b8;refine Sw ?_;refine CW.loop (ι:=Nat) (λy w'=>y≤row.length∧Chg S0 w9 w'∧Bk w2.heap.size w' (.slice op C.book.length oc) (E9 C.book (A4 P.book C.book) had i k' s.name (A5 s u) r row y t1) rv f) (λy=>[(2,.slice aj had.length ak),(3,.pointer (some ⟨A,0,none⟩)),(4,.pointer (some ⟨B,0,none⟩)),(7,.slice op C.book.length oc),(8,.slice sp P.book.length sc),(11,.int .i64 i),(12,.pointer (some ⟨X,0,none⟩)),(13,.int .i64 k'),(14,.int .i64 r),(15,.int .i64 y)]) (λy=>row.length - y) 0 ⟨Nat.zero_le _,Chg.refl _ _,c0⟩ LD ?_;rintro y dw ⟨dx,a3,a6⟩;have a7:=b7.same a3;have b9:=dt.chg a3 cj;have ba:=du.chg a3 bw;have bb:=dv.chg a3 bx;have cs:=ad _ a7;refine Sw ?_;refine Am (λh3=>?_) λh3=>?_;rotate_left
  ·have h3:y=row.length:=by simp at h3;omega
   subst h3;refine Sw ?_;exact QW.again (r+1) ⟨by omega,b6.same a3,by show Bk _ _ _ (FP C.book (A4 P.book C.book) had i k' s (A5 s u) (r+1) t0) _ _;rw [Mq af,cr];exact a6⟩ O0 (by omega)
  have h3:y<row.length:=by simp at h3;omega
  obtain ⟨tx,ct⟩:∃t,row[y]?=some t:=⟨_,List.getElem?_eq_getElem h3⟩;have bd:D4 (E9 C.book (A4 P.book C.book) had i k' s.name (A5 s u) r row y t1) C.book:=I8 b8;have a8:=Mp (c:=C.book) (ss:=(A4 P.book C.book)) (had:=had) (i:=i) (k:=k') (r:=r) (nm:=s.name) (sh:=A5 s u) (t:=t1) ct;obtain ⟨t2,c2⟩:∃t2,E9 C.book (A4 P.book C.book) had i k' s.name (A5 s u) r row y t1=t2:=⟨_,rfl⟩;rw [c2] at a6 bd a8;obtain ⟨sa,rp,rc,cp,cc,esp,dy,dz,cv⟩:=BZ.at (by rw [C0];exact cg _ a7) ck;subst esp;have f6:=cv 1 _ rfl;have f7:=cv 3 _ rfl;obtain ⟨z1,c4⟩:∃z,(Bx s u)[r]?=some z:=⟨_,List.getElem?_eq_getElem (by rw [Cq];exact h2)⟩;obtain ⟨z2,ap⟩:∃z,(Ex s u (Bx s u))[y]?=some z:=⟨_,List.getElem?_eq_getElem (by rw [F3];omega)⟩;obtain ⟨ba1,ba2⟩:=Fc ay an z1 (List.mem_of_getElem? c4);have f8:=an.cols;have f9:=an.rows;obtain ⟨bb1,bb2⟩:-1≤z2∧z2<u.cols:=by
   have h4:=GO (A2 s ((AN s u (Bx s u)).map Prod.fst)) (A2 u ((AN s u (Bx s u)).map Prod.snd)) (by simp [A2];omega) (by simp [A2];omega) z2 (List.mem_of_getElem? ap);have h5:(A2 u ((AN s u (Bx s u)).map Prod.snd)).length=u.cols.toNat:=by simp [A2]
   omega
  obtain ⟨ia,rfl,fa⟩:=AG.at1 dy c4;obtain ⟨ja,rfl,fb⟩:=AG.at1 dz ap;have fc:r<(A5 s u).rows.to.length:=by show r<(Bx s u).length;rw [Cq];exact h2
  have fd:y<(A5 s u).cols.to.length:=by show y<(Ex s u (Bx s u)).length;rw [F3];omega
  refine Sw ?_;refine CW.drawG (Ae dw) 19 (λw' h=>h) (by kernel_rfl) λwa d5=>?_;refine Bp ?_;refine GW.tail rfl (by kernel_rfl) (λhS=>?_);refine Sa ?_;have aq:=hS;generalize wa=cw at aq;replace b9:=b9.ext aq;replace ba:=ba.ext aq;replace bb:=bb.ext aq;replace a6:=a6.ext aq;have a9:=a7.ext aq;have ah:=ad _ a9;have e0:AK (A5 s u).rows (r:Int)=z1:=Lr c4;have e9:AK (A5 s u).cols (y:Int)=z2:=Lr ap;have hK:Jr C.book (A4 P.book C.book) had i k' s.name (A5 s u) r y tx t2=if 0≤z1∧0≤z2∧Jk u z1 z2=D0 s.name (A4 P.book C.book) tx then Nv t2 k' z1.toNat z2.toNat (UM had i r y) else t2:=by
   unfold Jr;simp only [e0,e9,Dc hu]
  obtain ⟨bq,be⟩:∃bq:Bool,bq=decide (0≤z1∧0≤z2∧Jk u z1 z2=D0 s.name (A4 P.book C.book) tx):=⟨_,rfl⟩;refine CW.cut (ι:=Unit) (λ_ w'=>Ae cw w') (λ_=>[(2,.slice aj had.length ak),(3,.pointer (some ⟨A,0,none⟩)),(4,.pointer (some ⟨B,0,none⟩)),(7,.slice op C.book.length oc),(8,.slice (some sa) P.book.length sc),(11,.int .i64 i),(12,.pointer (some ⟨X,0,none⟩)),(13,.int .i64 k'),(14,.int .i64 r),(15,.int .i64 y),(16,.int .i64 z1),(17,.int .i64 z2),(155,.bool bq)]) ?_ ?_
  ·obtain ⟨ga,q1,c1,rfl,-,ht,fe⟩:=AJ.at (AJ.ext hr ah) af;obtain ⟨gt,rfl,-,ff,fg⟩:=Av.at ht ct;obtain ⟨a2,q2,k2,eq2,-,-,bt,a5⟩:=Ak.at (Ak.ext hc ah) hu;subst eq2;have ea:=a5 2 _ rfl;refine CW.drawG (Ae cw) 33 (λw' h=>h) (by kernel_rfl) λwb df=>?_;clear hS;refine Bp ?_;by_cases ar:0≤z1;rotate_left
   ·have hb:bq=false:=by rw [be];exact decide_eq_false λh=>ar h.1
    refine GW.know (t:=124) (c:=false) rfl (by simp;omega) ?_;refine Bp ?_;refine W0 18 ?_;refine Bp ?_;refine GW.tail rfl (by kernel_rfl) (λhS=>?_);refine Sa ?_;exact QW.head () hS (by rw [hb];exact ((Ad.cons rfl (Ad.cons rfl (Ad.cons rfl (Ad.cons rfl (Ad.cons rfl (Ad.cons rfl (Ad.cons rfl (Ad.cons rfl (Ad.cons rfl (Ad.cons rfl (Ad.cons rfl (Ad.cons rfl (Ad.cons rfl (Ad.nil))))))))))))))))
   refine GW.know (t:=124) (c:=true) rfl (by simp;omega) ?_;refine Bp ?_;by_cases au:0≤z2;rotate_left
   ·have hb:bq=false:=by rw [be];exact decide_eq_false λh=>au h.2.1
    refine GW.know (t:=128) (c:=false) rfl (by simp;omega) ?_;refine Bp ?_;refine W0 18 ?_;refine Bp ?_;refine GW.tail rfl (by kernel_rfl) (λhS=>?_);refine Sa ?_;exact QW.head () hS (by rw [hb];exact ((Ad.cons rfl (Ad.cons rfl (Ad.cons rfl (Ad.cons rfl (Ad.cons rfl (Ad.cons rfl (Ad.cons rfl (Ad.cons rfl (Ad.cons rfl (Ad.cons rfl (Ad.cons rfl (Ad.cons rfl (Ad.cons rfl (Ad.nil))))))))))))))))
   obtain ⟨rowc,a0⟩:∃r,u.rows[z1.toNat]?=some r:=⟨_,List.getElem?_eq_getElem (by omega)⟩;have c5:=an.wide rowc (List.mem_of_getElem? a0);obtain ⟨tc,bf⟩:∃r,rowc[z2.toNat]?=some r:=⟨_,List.getElem?_eq_getElem (by omega)⟩;obtain ⟨gc,q3,c3,eq3,-,c2,c6⟩:=AJ.at bt a0;subst eq3;rw [show ((z1.toNat:Nat):Int).toNat=z1.toNat by omega] at c6;obtain ⟨gd,eq4,-,-,eb⟩:=Av.at c2 bf;subst eq4;rw [show ((z2.toNat:Nat):Int).toNat=z2.toNat by omega] at eb;have ec:Jk u z1 z2=tc:=by rw [Jk,Dc a0,Dc bf]
   refine GW.know (t:=128) (c:=true) rfl (by simp;omega) ?_;refine Bp ?_;refine CX 18 λhS=>?_;refine Lb ?_;refine Ap rfl rfl (Q3 tx s.name (A4 P.book C.book) _ (by omega) _ (cg _ (a9.ext hS)) b1) ?_;rintro v c7 ⟨rfl,aa⟩;have c8:=hS.trans aa;clear hS;apply LW.nil;refine QW.headed c8 ?_;refine Bp ?_;refine GW.tail rfl (by kernel_rfl) (λhS=>?_);have hb:bq=decide (D0 s.name (A4 P.book C.book) tx=tc):=by
    rw [be,ec];by_cases e:D0 s.name (A4 P.book C.book) tx=tc
    ·simp [ar,au,e]
    ·have e':¬tc=D0 s.name (A4 P.book C.book) tx:=λh=>e h.symm;simp [e,e']
   refine Sa ?_;exact QW.head () hS (by rw [hb];exact ((Ad.cons rfl (Ad.cons rfl (Ad.cons rfl (Ad.cons rfl (Ad.cons rfl (Ad.cons rfl (Ad.cons rfl (Ad.cons rfl (Ad.cons rfl (Ad.cons rfl (Ad.cons rfl (Ad.cons rfl (Ad.cons rfl (Ad.nil))))))))))))))))
  rintro ⟨⟩ c7 aa;show CW _ _ _ _ _ [(2,.slice aj had.length ak),(3,.pointer (some ⟨A,0,none⟩)),(4,.pointer (some ⟨B,0,none⟩)),(7,.slice op C.book.length oc),(8,.slice (some sa) P.book.length sc),(11,.int .i64 i),(12,.pointer (some ⟨X,0,none⟩)),(13,.int .i64 k'),(14,.int .i64 r),(15,.int .i64 y),(16,.int .i64 z1),(17,.int .i64 z2),(155,.bool bq)] _;have bg:=a9.ext aa;have bh:=ad _ bg;have av:=a6.ext aa;have ai:Chg S0 w9 c7:=(a3.ext aq).ext aa;refine Sa ?_;refine Am (λh4=>?_) λh4=>?_;rotate_left
  ·rw [be] at h4;rw [if_neg (of_decide_eq_false h4)] at hK;refine Sw ?_;exact QW.again (y+1) ⟨by omega,ai,by show Bk _ _ _ (E9 _ _ _ _ _ _ _ _ _ (y+1) _) _ _;rw [a8,hK];exact av⟩ LD (by omega)
  rw [be] at h4;have cx:=of_decide_eq_true h4;rw [if_pos cx] at hK;obtain ⟨ar,au,-⟩:=cx;obtain ⟨rowc,a0⟩:∃r,u.rows[z1.toNat]?=some r:=⟨_,List.getElem?_eq_getElem (by omega)⟩;have c5:=an.wide rowc (List.mem_of_getElem? a0);obtain ⟨EJ,xT,e1,e2,e3,e4⟩:=bd.at hu a0;obtain ⟨TB,tb',TM,tm,tx',eqv,fh,ed,ee,tsp,ef⟩:=av.at e1 e2 (λe=>by rw [e] at e3;simp at e3;omega);obtain ⟨rfl,-,-⟩:=Value.slice.inj eqv;rw [show ((z1.toNat:Nat):Int).toNat=z1.toNat by omega] at ed;obtain ⟨rowsH,xH,e5,e6,e7,e8⟩:=hfit.at hs af;obtain ⟨fi,fj,fk,rfl,eg,fl⟩:=ET.at (ET.ext hh bh) e5;obtain ⟨fm,fn,fo,rfl,-,c9,fp⟩:=AJ.at eg e6;obtain ⟨vH,cy⟩:∃v,xH[y]?=some v:=⟨_,List.getElem?_eq_getElem (by omega)⟩;obtain ⟨fq,rfl,-,eh,fr⟩:=Av.at c9 cy;have fs:=(List.getElem?_eq_some_iff.1 e5).1;have ft:=(List.getElem?_eq_some_iff.1 e1).1;refine Sw ?_;refine CW.drawG (Ae c7) 19 (λw' h=>h) (by kernel_rfl) λwc fu=>?_;clear hS;refine Bp ?_;refine GW.tail rfl (by kernel_rfl) (λhS=>?_);refine LW.store (i:=0+z2.toNat*1) (by show some (Value.pointer (some (Addr.add ⟨f k' z1.toNat,0,none⟩ (z2.toNat*1))))=_;rw [A0]) rfl rfl (ef.ext hS) (Nat.ble_eq_true_of_le (by show _+1≤_;rw [List.length_append,List.length_map];omega)) rfl rfl λei bi bj=>?_;rw [show 0+z2.toNat*1=z2.toNat by omega,List.set_append_left _ _ (by rw [List.length_map];omega),←List.map_set] at bj;have ca:=(av.ext hS).set e1 e2 (by omega) eh bi bj;have ej:f k' z1.toNat∈S0:=(az _).2 ⟨ee,by
   obtain ⟨_,_,_,_,_,_,_,_,_,_,h9⟩:=br.at (LG hu) (row:=z1.toNat) (x:=rowc.map λ_=>C.id) (by rw [List.getElem?_map,a0];rfl) (λe=>by
    have cz:=congrArg List.length e;simp at cz;rw [cz] at c5;simp at c5;omega)
   exact h9.lt⟩
  have bk:Chg S0 w9 ei:=(ai.ext hS).same (bi.mono λb hb _=>by simp only [List.mem_singleton] at hb;rw [hb];exact ej);refine Sw ?_;exact QW.again (y+1) ⟨by omega,bk,by show Bk _ _ _ (E9 _ _ _ _ _ _ _ _ _ (y+1) _) _ _;rw [a8,hK,Sf e5 e6 cy];exact ca⟩ LD (by omega)
theorem HT {w:World} {A i:Nat} {cs:List Value} {T:TypeId} {sv:Value} (h:Blk w A cs T) (hc:cs[i]?=some sv):∀j u,([sv]:List Value)[j]?=some u→w.cell? ((⟨A,i,none⟩:Addr).add j)=some u:=λj u hj=>by
 cases j with
 | zero=>
  obtain rfl:=Option.some.inj hj;rw [A0]
  exact h.cell hc
 | succ j=>simp at hj
set_option maxRecDepth 8000 in
set_option maxHeartbeats 40000000 in
theorem Rf (p c:A1) (bp dp:Option Addr) (bc dc A:Nat) (w0 w:World) (hx0:Ae w0 w) (hAn:w0.heap.size≤A) (hp:Cs w0 (.slice bp p.length bc) p) (hc:Cs w0 (.slice dp c.length dc) c) (hmp:Bu p=true) (hmc:Bu c=true) (hA:Blk w A [.slice bp p.length bc,.slice dp c.length dc,.slice none 0 0] 58) :
  AA Tryz.prog 31 [.pointer (some ⟨A,0,none⟩)] w (λv w'=>v=.tuple #[]∧∃sp sc,Nm w.heap.size w' (.slice sp p.length sc) (A4 p c)∧Blk w' A [.slice bp p.length bc,.slice dp c.length dc,.slice sp p.length sc] 58∧Chg [A] w w'):=by
 have b5:=(CM.1 hmp).1;have b6:=(CM.1 hmc).1;have b7:=hA.lt;have far:∀w',Chg [A] w w'→Ae w0 w':=λw' h=>hx0.step h (by simp;omega);refine AL Tryz.func31 Tryz.ntmps31 ?_;refine Sw ?_;refine CW.loop (ι:=Nat×Option Addr×Nat) (λx w'=>x.1≤p.length∧Chg [A] w w'∧Nm w.heap.size w' (.slice x.2.1 x.1 x.2.2) ((A4 p c).take x.1)∧Blk w' A [.slice bp p.length bc,.slice dp c.length dc,.slice x.2.1 x.1 x.2.2] 58) (λx=>[(0,.pointer (some ⟨A,0,none⟩)),(9,.slice bp p.length bc),(10,.int .i64 p.length),(11,.int .i64 x.1)]) (λx=>p.length - x.1) (0,none,0) ⟨Nat.zero_le _,Chg.refl _ _,Nm.nil,hA⟩ BN ?_;rintro ⟨i,op,oc⟩ w1 ⟨hi,ab,ai,aj⟩;dsimp only at hi ai aj;show CW _ _ _ _ _ [(0,.pointer (some ⟨A,0,none⟩)),(9,.slice bp p.length bc),(10,.int .i64 p.length),(11,.int .i64 (i:Int))] _;have a7:=far _ ab;have b8:=ab.size;refine Sw ?_;refine Am (λh1=>?_) λh1=>?_;rotate_left
 ·have h1:i=p.length:=by simp at h1;omega
  subst h1;rw [List.take_of_length_le (by rw [C0];exact Nat.le_refl _)] at ai;refine Sw ?_;exact QW.body_n (rs:=[]) (vs:=[]) Tryz.results31 trivial rfl ⟨rfl,op,oc,ai,aj,ab⟩
 have h1:i<p.length:=by simp at h1;omega
 obtain ⟨s,hs⟩:∃s,p[i]?=some s:=⟨_,List.getElem?_eq_getElem h1⟩;obtain ⟨a,q,k,eqb,-,b9,hr,a8⟩:=Ak.at hp hs;subst eqb;have ac:∀j u,(AB s (.slice q s.rows.length k))[j]?=some u→w1.cell? ((a.add (((i:Nat):Int).toNat*3)).add j)=some u:=λj u hj=>Aw a7 (a8 j u hj);have av:=CN (C5 hmp hs);have aw:=FE (c:=c) hs;obtain ⟨et,el⟩:=L4 aw;obtain ⟨css,g1,g2,g3,g4⟩:=ai;rw [el] at g3;have hV:∀b,b∈Af (Value.slice op i oc)→w.heap.size≤b∧b<w1.heap.size:=λb hb=>g3.lt hb;have aq:A∉Af (Value.slice op i oc):=λh=>by have:=(hV A h).1;omega
 refine Sa ?_;refine Lo ?_;refine LW.load_cells rfl ac rfl rfl rfl rfl ?_;refine Sa ?_;refine BP λX w2 ba ar hX=>?_;have bb:=hX.lt;have bd:=ar.size;refine Sa ?_;refine AM λw3 ax hX=>?_;replace hX:Blk w3 X (AB s (.slice q s.rows.length k)) 41:=hX;have a9:Ae w1 w3:=ar.step ax (by simp;omega);have ad:=aj.ext a9;refine Sa ?_;refine CW.drawG (Ae w3) 7 (λw' h=>h) (by kernel_rfl) λwa be=>?_;refine Bp ?_;refine GW.take 3 rfl rfl rfl rfl (λw' ak=>Y.load_cells rfl (HT (i:=1) (ad.ext ak) rfl) rfl rfl rfl) rfl rfl (by kernel_rfl) (by kernel_rfl) (by kernel_rfl) (λ_ _ _ h=>h) ?_;refine Bp ?_;refine CX 6 λhS=>?_;refine Ap rfl rfl (OY c _ s.name _ (hc.ext ((a7.trans a9).trans hS))) ?_;rintro v w4 ⟨rfl,ay⟩;have az:=hS.trans ay;clear hS;apply LW.nil;refine QW.headed az ?_;refine GW.tail rfl (by kernel_rfl) (λhS=>?_);have a1:=a9.trans hS;replace ad:=ad.ext hS;replace hX:=hX.ext hS;have b0:=a1.size;have bf:X∉Af (Value.slice op i oc):=λh=>by have:=(hV X h).2;omega
 clear hS
 cases hk:N5 c s.name with
 | none=>
  rw [hk] at et;simp only at et;refine Sw ?_;refine CW.drawG (Chg (Af (Value.slice op i oc)) w4) 12 (λw' h=>h.chg) (by kernel_rfl) λwb al=>?_;refine Sg ?_;refine Bp ?_;refine Sg ?_;refine Bp ?_;refine CX 8 λhS=>?_;refine Cl λD w6 b1 a3 hD=>?_;have b2:=a3.size;replace hD:Blk w6 D (KK ⟨s.name,⟨[],0⟩,⟨[],0⟩,true⟩ (.slice none 0 0) (.slice none 0 0)) 73:=hD;have a4:Ae w4 wb:=al;have a0:Ae w4 w6:=a4.trans a3;have am:=a0.size;replace hS:=hS.ext a3;apply LW.nil;refine QW.headed hS ?_;refine CX 9 λhS=>?_;refine LW.append (lo:=w.heap.size) (k:=i) rfl rfl rfl rfl rfl rfl ((g3.ext a1).ext a0) (by omega) hD rfl rfl rfl (by show (_+1)*89≤_;omega) rfl ?_;intro v7 w7 a5 ae an;have af:=Nm.snoc (s:=⟨s.name,⟨[],0⟩,⟨[],0⟩,true⟩) g1 g2 g4 (a1.trans a0) (E.Ax.nil _ _ _ _) (E.Ax.nil _ _ _ _) (by simp [Af]) (by simp [Af]) a5 an (by rw [el];exact ae);rw [et] at af;obtain ⟨p7,c7,rfl⟩:=ae.slice;have a6:=(ad.ext a0).chg a5 aq;replace hS:=hS.same a5;apply LW.nil;refine QW.headed hS ?_;refine Bp ?_;refine GW.tail rfl (by kernel_rfl) (λhS=>?_);refine BS λw8 ag a6=>?_;replace a6:Blk w8 A [.slice (some a) p.length bc,.slice dp c.length dc,.slice p7 (i+1) c7] 58:=a6;refine Sa ?_
  exact QW.again (i+1,p7,c7) ⟨by show i+1≤_;omega,((ab.ext (a1.trans a0)).more a5 (λb hb=>(hV b hb).1)).same ag,af.chg ag (by simp;omega),a6⟩ BN (by show p.length - (i+1)<p.length - i;omega)
 | some k'=>
  obtain ⟨u,hu,-⟩:=Jg hk;rw [hk] at et;simp only [hu] at et;have bg:=(List.getElem?_eq_some_iff.1 hu).1;have b3:=CN (C5 hmc hu);have ao:=a7.trans a1;have bh:=hx0.size;obtain ⟨a2,q2,k2,eq2,-,-,b4,aa⟩:=Ak.at hc hu;subst eq2;have far4:∀w',Chg (Af (Value.slice op i oc)) w4 w'→Ae w0 w':=λw' h=>ao.step h (λb hb=>by have:=(hV b hb).1;omega);rw [show Ro (some k')=(k':Int) from rfl];refine Sw ?_;refine CW.drawG (Chg (Af (Value.slice op i oc)) w4) 19 (λw' h=>h.chg) (by kernel_rfl) λwb al=>?_;refine Sg ?_;refine Bp ?_;refine Sg ?_;refine Bp ?_;refine Sg ?_;refine Bp ?_;refine GW.take 13 rfl rfl rfl rfl (λw' ak=>Y.load_cells rfl (λj u hj=>Aw (far4 _ ak) (aa j u hj)) rfl rfl rfl) rfl rfl (by kernel_rfl) (by kernel_rfl) (by kernel_rfl) (λ_ _ _ h=>h) ?_;refine Bp ?_;refine CX 14 λhS=>?_;refine Ap rfl rfl (Ph s u _ _ _ (AJ.ext hr (far4 _ hS)) (AJ.ext b4 (far4 _ hS)) av b3) ?_;rintro v w5 ⟨ru,cu,rfl,o1,o2,au⟩;obtain ⟨rp,rc,rfl⟩:=o1.slice;obtain ⟨cp,cc,rfl⟩:=o2.slice;have a4:Ae w4 wb:=al;have bi:=a4.size;have ap:=a4.trans au;replace hS:=hS.ext au;apply LW.nil;refine QW.headed hS ?_;refine CX 15 λhS=>?_;refine Cl λD w6 b1 a3 hD=>?_;have b2:=a3.size;replace hD:Blk w6 D (KK (A5 s u) (.slice rp s.rows.length rc) (.slice cp s.cols.toNat cc)) 73:=hD;have a0:Ae w4 w6:=ap.trans a3;have am:=a0.size;replace hS:=hS.ext a3;apply LW.nil;refine QW.headed hS ?_;refine CX 16 λhS=>?_;refine LW.append (lo:=w.heap.size) (k:=i) rfl rfl rfl rfl rfl rfl ((g3.ext a1).ext a0) (by omega) hD rfl rfl rfl (by show (_+1)*89≤_;omega) rfl ?_;intro v7 w7 a5 ae an;have ah:∀b,wb.heap.size≤b→b∉Af (Value.slice op i oc):=λb hb hm=>by have:=(hV b hm).2;omega
  have o1':E.Ax w6 w.heap.size 3 1 (.slice rp s.rows.length rc) (A5 s u).rows.to.length (Ac (A5 s u).rows.to):=by
   rw [show (A5 s u).rows.to.length=s.rows.length from Cq s u];exact (o1.ext a3).low (by omega)
  have o2':E.Ax w6 w.heap.size 3 1 (.slice cp s.cols.toNat cc) (A5 s u).cols.to.length (Ac (A5 s u).cols.to):=by
   rw [show (A5 s u).cols.to.length=s.cols.toNat from F3 s u _];exact (o2.ext a3).low (by omega)
  have af:=Nm.snoc (s:=A5 s u) g1 g2 g4 (a1.trans a0) o1' o2' (λb hb=>ah b (o1.lt hb).1) (λb hb=>ah b (o2.lt hb).1) a5 an (by rw [el];exact ae);rw [et] at af;obtain ⟨p7,c7,rfl⟩:=ae.slice;have a6:=(ad.ext a0).chg a5 aq;replace hS:=hS.same a5;apply LW.nil;refine QW.headed hS ?_;refine Bp ?_;refine GW.tail rfl (by kernel_rfl) (λhS=>?_);refine BS λw8 ag a6=>?_;replace a6:Blk w8 A [.slice (some a) p.length bc,.slice (some a2) c.length dc,.slice p7 (i+1) c7] 58:=a6;refine Sa ?_;exact QW.again (i+1,p7,c7) ⟨by show i+1≤_;omega,((ab.ext (a1.trans a0)).more a5 (λb hb=>(hV b hb).1)).same ag,af.chg ag (by simp;omega),a6⟩ BN (by show p.length - (i+1)<p.length - i;omega)
theorem VG (x y:Nat) (hx:x<18446744073709551616) (hy:y<18446744073709551616) (w:World):AA Tryz.prog 62 [.int .u64 x,.int .u64 y] w (λv w'=>v=.tuple #[.int .u64 ((x*y / 18446744073709551616:Nat):Int),.int .u64 ((x*y % 18446744073709551616:Nat):Int)]∧Ae w w'):=
 FA (by kernel_rfl) (Tryz.bits_Mul x y hx hy w) λe w' ⟨he,hw⟩=>⟨_,he,rfl,by subst hw;exact Chg.refl _ _⟩
theorem Vr {z s:Value} {n c:Nat} (hn:n≤c):((List.replicate n s++List.replicate (c - n) z).take n++List.replicate (min n (c - n)) s++(List.replicate n s++List.replicate (c - n) z).drop (n+min n (c - n)))=List.replicate (n+min n (c - n)) s++List.replicate (c - (n+min n (c - n))) z:=by
 have e1:(List.replicate n s++List.replicate (c - n) z).take n=List.replicate n s:=by rw [List.take_append_of_le_length (by simp)];simp
 have e2:(List.replicate n s++List.replicate (c - n) z).drop (n+min n (c - n))=List.replicate (c - (n+min n (c - n))) z:=by
  rw [List.drop_append,List.drop_eq_nil_of_le (by simp),List.nil_append,List.drop_replicate,List.length_replicate]
  congr 1
  omega
 rw [e1,e2,List.replicate_append_replicate]
set_option maxRecDepth 8000 in
set_option maxHeartbeats 4000000 in
theorem QV (id:List UInt8) (c A k:Nat) (w:World) (hA:Blk w A [Aj id] 9) (hc:c≤1000000):AA Tryz.prog 44 [.slice (some ⟨A,0,none⟩) 1 k,.int .i64 c] w (λv w'=>E.Ax w' w.heap.size 9 1 v c (List.replicate c (Aj id))∧Ae w w'):=by
 have ad:=hA.lt;refine AL Tryz.func44 Tryz.ntmps44 ?_;refine Sw ?_;refine Ap rfl rfl (VG 1 c (by omega) (by omega) w) ?_;rintro v w1 ⟨rfl,a1⟩;rw [show 1*c / 18446744073709551616=0 by omega,show 1*c % 18446744073709551616=c by omega];replace hA:=hA.ext a1;refine Sw ?_;refine Am (λh2=>?_) λh2=>?_
 ·have h2:(9223372036854775807:Int)<(c:Int):=of_decide_eq_true h2;omega
 refine Sw ?_;refine LW.makeSlice (m:=c) rfl rfl rfl rfl rfl rfl rfl (by omega) rfl rfl ?_;intro B w2 ae a4 hB;replace hA:=hA.ext a4;have af:=a1.size;have a2:=a1.trans a4;refine Sw ?_;refine LW.copy (g:=B) (off:=0) (cs:=List.replicate (min 1 c) (Aj id)) rfl rfl rfl rfl rfl rfl rfl hB (by simp) (λ_=>⟨rfl,_,rfl,λj v hj=>?_⟩) (by simp;omega) (λv hv=>by rw [(List.mem_replicate.1 hv).2];rfl) λw3 ab a3=>?_
 ·have a0:=(List.getElem?_eq_some_iff.1 hj).1;simp only [List.length_replicate] at a0;obtain rfl:j=0:=by omega
  rw [List.getElem?_replicate,if_pos a0] at hj;obtain rfl:=Option.some.inj hj;rw [A0];exact hA.cell rfl
 simp only [List.length_replicate,List.take_zero,List.nil_append,List.drop_replicate,Nat.zero_add] at a3 ⊢;have ag:=a3.lt;refine Sw ?_;refine CW.loop (ι:=Nat) (λn w'=>n≤c∧(0<c→0<n)∧Chg [B] w2 w'∧Blk w' B (List.replicate n (Aj id)++List.replicate (c - n) (Aj [])) 9) (λn=>[(7,.slice (some ⟨B,0,none⟩) c c),(8,.int .i64 n)]) (λn=>c - n) (min 1 c) ⟨by omega,by omega,ab,a3⟩ Fv ?_;rintro n w4 ⟨hn,h0,a5,a6⟩;refine Sw ?_;refine Am (λh2=>?_) λh2=>?_;rotate_left
 ·have h2:n=c:=by simp at h2;omega
  subst h2;refine Sw ?_;exact QW.body1 Tryz.results44 rfl ⟨⟨by simp,.inr ⟨B,n,[],rfl,by simpa using a6,Nat.le_refl _,by simp,by omega⟩⟩,a2.step a5 (by simp;omega)⟩
 have h2:n<c:=by simp at h2;omega
 have h3:=h0 (by omega);refine Sw ?_;refine CW.drawG (Chg [B] w4) 8 (λw' h=>h.chg) (by kernel_rfl) λwa a7=>?_;refine Xi 0 ?_;refine Xi 1 ?_;refine Xi 2 ?_;refine GW.take 3 rfl rfl rfl rfl (λ_ _=>Y.slice_from (i:=n) rfl rfl rfl rfl rfl hn) rfl rfl (by kernel_rfl) (by kernel_rfl) (by kernel_rfl) (λ_ _ _ h=>h) ?_;refine Xi 4 ?_;refine Xi 5 ?_;refine GW.take 6 rfl rfl rfl rfl (λ_ _=>Y.slice_hi (j:=n) rfl rfl rfl rfl rfl hn) rfl rfl (by kernel_rfl) (by kernel_rfl) (by kernel_rfl) (λ_ _ _ h=>h) ?_;refine CX 7 λhS=>?_;have a8:=a6.ext a7;refine LW.copy (g:=B) (off:=n) (cs:=List.replicate (min n (c - n)) (Aj id)) rfl rfl rfl rfl rfl rfl rfl a8 (by simp) (λ_=>⟨?_,_,rfl,λj v hj=>?_⟩) (by simp;omega) (λv hv=>by rw [(List.mem_replicate.1 hv).2];rfl) λw5 ac a9=>?_
 ·rw [if_neg (by omega)];show some (Addr.add ⟨B,0,none⟩ (n*1))=_;rw [A0]
  congr 2
  omega
 ·have a0:=(List.getElem?_eq_some_iff.1 hj).1;simp only [List.length_replicate] at a0;rw [List.getElem?_replicate,if_pos a0] at hj;obtain rfl:=Option.some.inj hj;rw [A0];refine a8.cell ?_;rw [Nat.zero_add,List.getElem?_append_left (by simp;omega),List.getElem?_replicate,if_pos (by omega)]
 rw [List.length_replicate,Vr hn] at a9;rw [List.length_replicate];have aa:Chg [B] w4 w5:=a7.chg.same ac;clear hS;apply LW.nil;refine QW.headed aa ?_;refine GW.tail rfl (by kernel_rfl) (λhS=>?_);refine Sw ?_;exact QW.again (n+min n (c - n)) ⟨by omega,by omega,a5.same aa,a9⟩ Fv (by omega)
set_option maxRecDepth 8000 in
set_option maxHeartbeats 4000000 in
theorem U5 (b:A1) (sv:Value) (id:List UInt8) (w:World) (h:Cs w sv b) (hid:id.length≤1000000):AA Tryz.prog 30 [.agg ⟨[sv]⟩,Aj id] w (λv w'=>∃rv f,Bk w.heap.size w' v (GD b id) rv f∧Ae w w'):=by
 obtain ⟨p,c,rfl⟩:=h.slice;have hl:=h.1;refine AL Tryz.func30 Tryz.ntmps30 ?_;apply CW.seq;apply CW.region;refine Sl ?_;refine CZ λA w1 bk ar hA=>?_;replace hA:Blk w1 A [.slice p b.length c] 29:=hA;have bl:=hA.lt;refine Sa ?_;refine LW.makeSlice (m:=b.length) rfl rfl rfl rfl rfl rfl rfl (by omega) rfl rfl ?_;intro B w2 bm ag hB;replace hA:=hA.ext ag;have ah:=ar.trans ag;have bn:=ar.size;have bo:=ag.size;have bp:=hB.lt;have b1:A∉[B]:=by simp;omega
 refine Sa ?_;refine CW.loop (ι:=Nat) (λi w'=>i≤b.length∧Chg [B] w2 w'∧∃rv f,Blk w' B ((List.range i).map rv++List.replicate (b.length - i) (.slice none 0 0)) 39∧Df w2.heap.size w' i (tb (GD b id)) rv f [B]) (λi=>[(1,Aj id),(2,.pointer (some ⟨A,0,none⟩)),(5,.slice (some ⟨B,0,none⟩) b.length b.length),(15,.slice p b.length c),(16,.int .i64 b.length),(17,.int .i64 i)]) (λi=>b.length - i) 0 ⟨Nat.zero_le _,Chg.refl _ _,λ_=>.slice none 0 0,λ_ _=>0,by simpa using hB,Df.zero⟩ BQ ?_;rintro i w3 ⟨hi,ad,rv,f,au,a0⟩;have bq:=hA.chg ad b1;have br:=ad.size;have far:∀w',Chg [B] w2 w'→Ae w w':=λw' h=>ah.step h (by simp;omega);have a6:=far _ ad;refine Sw ?_;refine Am (λh1=>?_) λh1=>?_;rotate_left
 ·have h1:i=b.length:=by simp at h1;omega
  subst h1;refine Sw ?_;refine QW.body1 Tryz.results30 rfl ⟨rv,f,⟨?_,?_,?_⟩,a6⟩
  ·rw [Fz];exact ⟨by simp,.inr ⟨B,b.length,[],rfl,by simpa using au,Nat.le_refl _,by simp,by omega⟩⟩
  ·rw [Fz];exact hl
  ·rw [OU,Fz];exact ⟨λi s hi hs=>(a0.rows i s hi hs).low (by omega),a0.apartV,a0.apart⟩
 have h1:i<b.length:=by simp at h1;omega
 obtain ⟨s,hs⟩:∃s,b[i]?=some s:=⟨_,List.getElem?_eq_getElem h1⟩;have b2:=IX (LG (id:=id) hs);obtain ⟨a,q,k,eqb,-,bs,hr,a1⟩:=Ak.at h hs;subst eqb;have av:∀j u,(AB s (.slice q s.rows.length k))[j]?=some u→w3.cell? ((a.add (((i:Nat):Int).toNat*3)).add j)=some u:=λj u hj=>Aw a6 (a1 j u hj);have b3:=hr.1;refine Sw ?_;refine BP λX w4 bt b4 hX=>?_;refine Sw ?_;refine AM λw5 b5 hX=>?_;replace hX:Blk w5 X (AB s (.slice q s.rows.length k)) 41:=hX;have a7:Ae w3 w5:=b4.step b5 (by simp;omega);have bu:=hX.lt;refine Sa ?_;refine LW.makeSlice (m:=s.rows.length) rfl rfl rfl rfl rfl rfl rfl (by omega) rfl rfl ?_;intro M w6 bv aw hM;replace hX:=hX.ext aw;have a2:=a7.trans aw;have b6:=a7.size;have b7:=a2.size;have bw:=hM.lt;have b8:=au.ext a2;refine Sa ?_;refine LW.idx_slice (j:=i) rfl rfl rfl rfl rfl (by omega) (by omega) (by show 0+((i:Nat):Int).toNat*1=_;omega) rfl ?_;refine LW.store rfl rfl rfl b8 (Nat.ble_eq_true_of_le (by show i+1≤_;simp;omega)) rfl rfl λw7 ae ax=>?_;rw [QF (by simp) h1] at ax;have b9:=hM.chg ae (by simp;omega);have bx:=hX.chg ae (by simp;omega);have a3:Chg [B] w3 w7:=a2.chg.same ae;have a8:Chg [B] w2 w7:=ad.same a3;have ba:=a3.size;have bb:=ae.size;have ai:=far _ a8;refine Sa ?_;refine CW.loop (ι:=Nat) (λr w'=>r≤s.rows.length∧Chg [M] w7 w'∧∃xs g,Blk w' M (xs++List.replicate (s.rows.length - r) (.slice none 0 0)) 26∧C8 w7.heap.size w' xs ((s.rows.map λr=>r.map λ_=>id).take r) g [M]) (λr=>[(1,Aj id),(2,.pointer (some ⟨A,0,none⟩)),(5,.slice (some ⟨B,0,none⟩) b.length b.length),(6,.int .i64 i),(15,.slice (some a) b.length c),(16,.int .i64 b.length),(17,.int .i64 i),(30,.slice q s.rows.length k),(31,.int .i64 s.rows.length),(32,.int .i64 r)]) (λr=>s.rows.length - r) 0 ⟨Nat.zero_le _,Chg.refl _ _,[],λ_=>0,by simpa using b9,C8.nil⟩ LD ?_;rintro r w8 ⟨bz,a4,xs,g,aj,a5⟩;have c0:=a4.size;have ay:=ax.chg a4 (by simp;omega);have far2:∀w',Chg [M] w7 w'→Ae w w':=λw' h=>ai.step h (by simp;omega);have ak:=far2 _ a4;refine Sw ?_;refine Am (λh2=>?_) λh2=>?_;rotate_left
 ·have h2:r=s.rows.length:=by simp at h2;omega
  subst h2;rw [List.take_of_length_le (by simp)] at a5;rw [Nat.sub_self,List.replicate_zero,List.append_nil] at aj;have af:=a5.len;have hF:BT w5.heap.size w8 (.slice (some ⟨M,0,none⟩) s.rows.length s.rows.length) (s.rows.map λr=>r.map λ_=>id) g:=⟨⟨xs,⟨by rw [af];simp,.inr ⟨M,s.rows.length,[],by simp,by simpa using aj,by simp,by simp,by omega⟩⟩,a5.low (by omega)⟩,by simpa using b3⟩;have al:=a0.chg a3 (λj t hj ht y hy=>a0.apartV j t hj ht y hy);have am:=al.chg a4 (λj t hj ht y hy=>by have:=((a0.rows j t hj ht).lt hy).2;simp;omega);have a9:=am.push b2 (hF.low (by omega)) (λx hx hb=>by
   have:=(hF.lt hx).1;simp at hb;omega) (λj t hj bc x hx hy=>by
   have:=((a0.rows j t hj bc).lt hx).2;have:=(hF.lt hy).1;omega)
  refine Sw ?_;refine QW.again (i+1) ⟨by omega,a8.more a4 (by simp;omega),_,_,?_,a9⟩ BQ (by omega);rw [Oc];exact ay
 have h2:r<s.rows.length:=by simp at h2;omega
 obtain ⟨row,aa⟩:∃r',s.rows[r]?=some r':=⟨_,List.getElem?_eq_getElem h2⟩;obtain ⟨ga,q1,c1,eqr,-,ht,an⟩:=AJ.at hr aa;subst eqr;have c2:=Aw ak an;have bd:=ht.1;have c3:w8.cell? ((⟨B,0,none⟩:Addr).add (((i:Nat):Int).toNat*1))=some (.slice (some ⟨M,0,none⟩) s.rows.length s.rows.length):=by
  rw [A0];refine ay.cell ?_;rw [show 0+((i:Nat):Int).toNat*1=i by omega,List.append_assoc,List.getElem?_append_right (by simp)];simp
 refine Sw ?_;refine CW.drawG (Ae w8) 11 (λw' h=>h) (by kernel_rfl) λwa c4=>?_;refine Bp ?_;refine CX 6 λhS=>?_;refine Cl λC w9 c5 az hC=>?_;have b0:=hS.trans az;clear hS;apply LW.nil;refine QW.headed b0 ?_;refine CX 9 λhS=>?_;refine Ap rfl rfl (QV id row.length C 1 _ hC (by omega)) ?_;rintro v be ⟨hR,ao⟩;obtain ⟨pv,cv,rfl⟩:=hR.slice;have ap:=hS.trans ao;clear hS;apply LW.nil;refine QW.headed ap ?_;refine Bp ?_;refine GW.tail rfl (by kernel_rfl) (λhS=>?_);have af:=a5.len;have bf:((s.rows.map λr=>r.map λ_=>id).take r).length=r:=by simp;omega
 rw [bf] at af;refine LW.store (i:=r) (by show some (Value.pointer (some (Addr.add ⟨M,0,none⟩ (((r:Nat):Int).toNat*1))))=_;rw [A0];congr;omega) rfl rfl (aj.ext hS) (Nat.ble_eq_true_of_le (by show r+1≤_;simp;omega)) rfl rfl λc6 ab ac=>?_;rw [QF af h2] at ac;have c7:=hS.size;have c8:=az.size;have bg:E.Ax be w8.heap.size 9 1 (.slice pv row.length cv) (row.map λ_=>id).length ((row.map λ_=>id).map Aj):=by
  rw [Sk,List.length_replicate,List.map_replicate];have bh:w8.heap.size≤w9.heap.size:=b0.size;exact hR.low bh
 obtain ⟨gR,bi,bj⟩:=Km bg (by simpa using bd) (λt ht=>by
  simp only [List.mem_map] at ht;obtain ⟨_,_,rfl⟩:=ht;exact hid)
 have a9:=(a5.ext hS).push bi (λhn=>by
  obtain ⟨g1,sp,g2⟩:=bj hn;refine ⟨by omega,by simp;omega,λr' y aq hy hf=>?_,sp,g2⟩;obtain ⟨_,_,sp',h9⟩:=a5.blk r' y aq hy;have:=h9.lt;omega)
 obtain ⟨et,el⟩:=L4 (l:=s.rows.map λr=>r.map λ_=>id) (j:=r) (x:=row.map λ_=>id) (by rw [List.getElem?_map,aa];rfl);rw [et,el] at a9;refine Sw ?_;exact QW.again (r+1) ⟨by omega,(a4.ext hS).same ab,_,_,ac,a9.chg ab (λr' y aq hy=>(a9.blk r' y aq hy).2.1)⟩ LD (by omega)
theorem P3 {m:CQ} (h:M1 m=true):m.Fine:=by
 simp only [M1,Bool.and_eq_true,decide_eq_true_eq] at h;exact ⟨by omega,by omega,by omega⟩
set_option maxRecDepth 8000 in
set_option maxHeartbeats 16000000 in
theorem SX (p c:A1) (bp dp sp:Option Addr) (bc dc sc A:Nat) (had t00:AD) (hv nv:Value) (rv:Nat→Value) (f:Nat→Nat→Nat) (wb w1 w:World) (g0:CU wb) (hxb1:Ae wb w1) (hx1:Ae w1 w) (hp:Cs wb (.slice bp p.length bc) p) (hc:Cs wb (.slice dp c.length dc) c) (hmp:Bu p=true) (hmc:Bu c=true) (hA:Blk w A [.slice bp p.length bc,.slice dp c.length dc,.slice sp p.length sc] 58) (hAh:w1.heap.size≤A) (hh:ET wb hv had) (hfit:D4 had p) (hT1:Bk wb.heap.size w1 nv t00 rv f) (hf0:D4 t00 c) (hSF:Nm w1.heap.size w (.slice sp p.length sc) (A4 p c)) :
  AA Tryz.prog 32 [.pointer (some ⟨A,0,none⟩),hv,nv] w (λv w'=>v=.tuple #[]∧Bk wb.heap.size w' nv (DI p c had p.length t00) rv f∧∃S:List Nat,(∀b∈S,wb.heap.size≤b∧b<w1.heap.size)∧Chg S w w'):=by
 obtain ⟨an,ao,rfl⟩:=hh.slice;obtain ⟨op,oc,rfl⟩:=hT1.slice;have bh:t00.length=c.length:=by have:=congrArg List.length hf0;simpa using this
 rw [bh];have df:=(CM.1 hmp).1;have dg:=(CM.1 hmc).1;have ad:=Og hmp hmc;have dh:=hA.lt;have di:=hxb1.size;have bi:=hx1.size;have cj:=hxb1.trans hx1;obtain ⟨S0,al⟩:∃S0:List Nat,∀b,b∈S0↔wb.heap.size≤b∧b<w1.heap.size:=⟨List.range' wb.heap.size (w1.heap.size - wb.heap.size),λb=>by rw [List.mem_range'_1];omega⟩;have bj:A∉S0:=λh=>by have:=(al A).1 h;omega
 have c2:∀w',Chg S0 w w'→BZ w' (.slice sp p.length sc) (A4 p c):=λw' hx=>(hSF.chg hx (λb hb=>((al b).1 hb).2)).list (by rw [C0];omega) (λs hs=>by have:=Nz (ad s hs);omega);have a3:∀w',Chg S0 w w'→Ae wb w':=λw' hx=>cj.step hx (λb hb=>by have:=(al b).1 hb;omega);have hT:=hT1.ext hx1;rw [bh] at hT;clear hSF;obtain ⟨sa0,ck⟩:∃v,v=Value.slice sp p.length sc:=⟨_,rfl⟩;refine AL Tryz.func32 Tryz.ntmps32 ?_;refine Sw ?_;refine CW.loop (ι:=Nat) (λi w'=>i≤p.length∧Chg S0 w w'∧Bk wb.heap.size w' (.slice op c.length oc) (DI p c had i t00) rv f) (λi=>[(0,.pointer (some ⟨A,0,none⟩)),(1,.slice an had.length ao),(2,.slice op c.length oc),(19,.slice bp p.length bc),(20,.int .i64 p.length),(21,.int .i64 i)]) (λi=>p.length - i) 0 ⟨Nat.zero_le _,Chg.refl _ _,hT⟩ BQ ?_;rintro i w5 ⟨hi,ap,c4⟩;have cl:=hA.chg ap bj;have aq:=a3 _ ap;have dj:=ap.size;refine Sw ?_;refine Am (λh1=>?_) λh1=>?_;rotate_left
 ·have h1:i=p.length:=by simp at h1;omega
  subst h1;refine Sw ?_;exact QW.body_n (rs:=[]) (vs:=[]) Tryz.results32 trivial rfl ⟨rfl,c4,S0,λb hb=>(al b).1 hb,ap⟩
 have h1:i<p.length:=by simp at h1;omega
 obtain ⟨s,hs⟩:∃s,p[i]?=some s:=⟨_,List.getElem?_eq_getElem h1⟩;obtain ⟨a,q,k,eqb,-,dk,hr,ae⟩:=Ak.at hp hs;subst eqb;have ar:∀j u,(AB s (.slice q s.rows.length k))[j]?=some u→w5.cell? ((a.add (((i:Nat):Int).toNat*3)).add j)=some u:=λj u hj=>Aw aq (ae j u hj);have be:=CN (C5 hmp hs);have dl:=be.rows;refine Sa ?_;refine Lo ?_;refine LW.load_cells rfl ar rfl rfl rfl rfl ?_;refine Sa ?_;refine BP λX w6 dm c5 hX=>?_;have dn:=hX.lt;have dq:=c5.size;refine Sa ?_;refine AM λw7 cm hX=>?_;replace hX:Blk w7 X (AB s (.slice q s.rows.length k)) 41:=hX;have af:Ae w5 w7:=c5.step cm (by simp;omega);have c6:=cl.ext af;have c7:X∉S0:=λh=>by have:=(al X).1 h;omega
 refine Sa ?_;refine CW.drawG (Ae w7) 7 (λw' h=>h) (by kernel_rfl) λwa cn=>?_;refine Bp ?_;refine GW.take 3 rfl rfl rfl rfl (λw' co=>Y.load_cells rfl (HT (i:=1) (c6.ext co) rfl) rfl rfl rfl) rfl rfl (by kernel_rfl) (by kernel_rfl) (by kernel_rfl) (λ_ _ _ h=>h) ?_;refine Bp ?_;refine CX 6 λhS=>?_;refine Ap rfl rfl (OY c _ s.name _ (hc.ext ((aq.trans af).trans hS))) ?_;rintro v w8 ⟨rfl,cq⟩;have cr:=hS.trans cq;clear hS;apply LW.nil;refine QW.headed cr ?_;refine GW.tail rfl (by kernel_rfl) (λhS=>?_);have au:=af.trans hS;have av:Chg S0 w w8:=ap.ext au;have bk:=c4.ext au;have cs:=hX.ext hS;have ct:=c6.ext hS;clear hS hX;have hX:=cs
 cases hk:N5 c s.name with
 | none=>
  refine Sw ?_
  exact QW.again (i+1) ⟨by omega,av,by show Bk _ _ _ (DI p c had (i+1) _) _ _;rw [Mm hs hk];exact bk⟩ BQ (by omega)
 | some k'=>
  obtain ⟨u,hu,-⟩:=Jg hk;have dr:=(List.getElem?_eq_some_iff.1 hu).1;have aw:=CN (C5 hmc hu);have bl:(A4 p c)[i]?=some (A5 s u):=by
   rw [FE hs,hk];simp only [hu]
  have c8:D4 (DI p c had i t00) c:=Ml hf0;obtain ⟨t0,c9⟩:∃t0,DI p c had i t00=t0:=⟨_,rfl⟩;rw [c9] at bk c8;rw [show Ro (some k')=(k':Int) from rfl];have cu:=ct;refine Sw ?_;refine CW.loop (ι:=Nat) (λr w'=>r≤s.rows.length∧Chg S0 w8 w'∧Bk wb.heap.size w' (.slice op c.length oc) (FP c (A4 p c) had i k' s (A5 s u) r t0) rv f) (λr=>[(0,.pointer (some ⟨A,0,none⟩)),(1,.slice an had.length ao),(2,.slice op c.length oc),(6,.int .i64 i),(7,.pointer (some ⟨X,0,none⟩)),(8,.int .i64 k'),(19,.slice (some a) p.length bc),(20,.int .i64 p.length),(21,.int .i64 i),(36,.slice q s.rows.length k),(37,.int .i64 s.rows.length),(38,.int .i64 r)]) (λr=>s.rows.length - r) 0 ⟨Nat.zero_le _,Chg.refl _ _,bk⟩ W5 ?_;rintro r w9 ⟨ds,bf,bm⟩;have ag:=av.same bf;have cv:=hX.chg bf c7;have cw:=cu.chg bf bj;have bn:=a3 _ ag;refine Sw ?_;refine Am (λh2=>?_) λh2=>?_;rotate_left
  ·have h2:r=s.rows.length:=by simp at h2;omega
   subst h2;refine Sw ?_;exact QW.again (i+1) ⟨by omega,ag,by show Bk _ _ _ (DI p c had (i+1) _) _ _;rw [Mn hs hk bl,c9];exact bm⟩ BQ (by omega)
  have h2:r<s.rows.length:=by simp at h2;omega
  obtain ⟨row,a9⟩:∃r',s.rows[r]?=some r':=⟨_,List.getElem?_eq_getElem h2⟩;have ca:=be.wide row (List.mem_of_getElem? a9);have dt:=be.cols;have ax:D4 (FP c (A4 p c) had i k' s (A5 s u) r t0) c:=I9 c8;obtain ⟨t1,cb⟩:∃t1,FP c (A4 p c) had i k' s (A5 s u) r t0=t1:=⟨_,rfl⟩;rw [cb] at bm ax;obtain ⟨ga,q1,c1,eqr,-,bo,br⟩:=AJ.at hr a9;subst eqr;have du:=Aw bn br;refine Sw ?_;refine CW.loop (ι:=Nat) (λy w'=>y≤row.length∧Chg S0 w9 w'∧Bk wb.heap.size w' (.slice op c.length oc) (E9 c (A4 p c) had i k' s.name (A5 s u) r row y t1) rv f) (λy=>[(0,.pointer (some ⟨A,0,none⟩)),(1,.slice an had.length ao),(2,.slice op c.length oc),(6,.int .i64 i),(7,.pointer (some ⟨X,0,none⟩)),(8,.int .i64 k'),(9,.int .i64 r),(19,.slice (some a) p.length bc),(20,.int .i64 p.length),(21,.int .i64 i),(36,.slice (some ga) s.rows.length k),(37,.int .i64 s.rows.length),(38,.int .i64 r),(43,.slice q1 row.length c1),(44,.int .i64 row.length),(45,.int .i64 y)]) (λy=>row.length - y) 0 ⟨Nat.zero_le _,Chg.refl _ _,bm⟩ (Ad.cons rfl (Ad.cons rfl (Ad.cons rfl (Ad.cons rfl (Ad.cons rfl (Ad.cons rfl (Ad.cons rfl (Ad.cons rfl (Ad.cons rfl (Ad.cons rfl (Ad.cons rfl (Ad.cons rfl (Ad.cons rfl (Ad.cons rfl (Ad.cons rfl (Ad.cons rfl (Ad.nil))))))))))))))))) ?_;rintro y bs ⟨cx,a4,a5⟩;have a6:=ag.same a4;have ay:=cv.chg a4 c7;have az:=cw.chg a4 bj;have b0:=a3 _ a6;refine Sw ?_;refine Am (λh3=>?_) λh3=>?_;rotate_left
  ·have h3:y=row.length:=by simp at h3;omega
   subst h3;refine Sw ?_;exact QW.again (r+1) ⟨by omega,bf.same a4,by show Bk _ _ _ (FP c (A4 p c) had i k' s (A5 s u) (r+1) t0) _ _;rw [Mq a9,cb];exact a5⟩ W5 (by omega)
  have h3:y<row.length:=by simp at h3;omega
  obtain ⟨tx,cd⟩:∃t,row[y]?=some t:=⟨_,List.getElem?_eq_getElem h3⟩;have b1:D4 (E9 c (A4 p c) had i k' s.name (A5 s u) r row y t1) c:=I8 ax;have a7:=Mp (c:=c) (ss:=(A4 p c)) (had:=had) (i:=i) (k:=k') (r:=r) (nm:=s.name) (sh:=A5 s u) (t:=t1) cd;obtain ⟨t2,bt⟩:∃t2,E9 c (A4 p c) had i k' s.name (A5 s u) r row y t1=t2:=⟨_,rfl⟩;rw [bt] at a5 b1 a7;obtain ⟨gt,eqt,-,bh,bu⟩:=Av.at bo cd;subst eqt;have dv:=Aw b0 bu;obtain ⟨sa,rp,rc,cp,cc,esp,cy,cz,bg⟩:=BZ.at (by rw [C0];exact c2 _ a6) bl;subst esp;have b2:=ad _ (List.mem_of_getElem? bl);have dw:∀j v,([.slice rp (A5 s u).rows.to.length rc,.int .i64 (A5 s u).rows.new]:List Value)[j]?=some v→bs.cell? (((sa.add (((i:Nat):Int).toNat*6)).add 1).add j)=some v:=λj v hj=>by
   rw [show ((i:Nat):Int).toNat=i by omega,Addr.add_add]
   match j,hj with
   | 0,hj=>exact bg 1 v hj
   | 1,hj=>exact bg 2 v hj
  have dx:∀j v,([.slice cp (A5 s u).cols.to.length cc,.int .i64 (A5 s u).cols.new]:List Value)[j]?=some v→bs.cell? (((sa.add (((i:Nat):Int).toNat*6)).add 3).add j)=some v:=λj v hj=>by
   rw [show ((i:Nat):Int).toNat=i by omega,Addr.add_add]
   match j,hj with
   | 0,hj=>exact bg 3 v hj
   | 1,hj=>exact bg 4 v hj
  obtain ⟨z1,bi⟩:∃z,(Bx s u)[r]?=some z:=⟨_,List.getElem?_eq_getElem (by rw [Cq];exact h2)⟩;obtain ⟨z2,b3⟩:∃z,(Ex s u (Bx s u))[y]?=some z:=⟨_,List.getElem?_eq_getElem (by rw [F3];omega)⟩;obtain ⟨ba1,ba2⟩:=Fc be aw z1 (List.mem_of_getElem? bi);have dy:=aw.cols;have dz:=aw.rows;obtain ⟨bb1,bb2⟩:-1≤z2∧z2<u.cols:=by
   have h4:=GO (A2 s ((AN s u (Bx s u)).map Prod.fst)) (A2 u ((AN s u (Bx s u)).map Prod.snd)) (by simp [A2];omega) (by simp [A2];omega) z2 (List.mem_of_getElem? b3);have h5:(A2 u ((AN s u (Bx s u)).map Prod.snd)).length=u.cols.toNat:=by simp [A2]
   omega
  have ce:AK (A5 s u).rows (r:Int)=z1:=Lr bi;have cf:AK (A5 s u).cols (y:Int)=z2:=Lr b3;refine Sw ?_;refine CW.drawG (Ae bs) 20 (λw' h=>h) (by kernel_rfl) λwa cn=>?_;refine Bp ?_;refine CX 9 λhS=>?_;refine Ap rfl rfl (Fh (A5 s u).rows (P3 b2.1) _ r (by omega) _ ⟨_,rfl,cy.ext hS⟩) ?_;rintro v bv ⟨rfl,bw⟩;rw [ce];have b4:=hS.trans bw;clear hS;apply LW.nil;refine QW.headed b4 ?_;refine Bp ?_;refine CX 19 λhS=>?_;refine Ap rfl rfl (Fh (A5 s u).cols (P3 b2.2) _ y (by omega) _ ⟨_,rfl,cz.ext hS⟩) ?_;rintro v b5 ⟨rfl,a1⟩;rw [cf];have aa:=hS.trans a1;clear hS;apply LW.nil;refine QW.headed aa ?_;refine GW.tail rfl (by kernel_rfl) (λhS=>?_);have am:=hS;clear hS b4 aa;generalize b5=bv at am;refine Sa ?_;replace ay:=ay.ext am;replace az:=az.ext am;replace a5:=a5.ext am;have a8:=a6.ext am;have ab:=a3 _ a8;have hK:Jr c (A4 p c) had i k' s.name (A5 s u) r y tx t2=if 0≤z1∧0≤z2∧Jk u z1 z2=D0 s.name (A4 p c) tx then Nv t2 k' z1.toNat z2.toNat (UM had i r y) else t2:=by
   unfold Jr;simp only [ce,cf,Dc hu]
  obtain ⟨bq,b6⟩:∃bq:Bool,bq=decide (0≤z1∧0≤z2∧Jk u z1 z2=D0 s.name (A4 p c) tx):=⟨_,rfl⟩;refine CW.cut (ι:=Unit) (λ_ w'=>Ae bv w') (λ_=>[(0,.pointer (some ⟨A,0,none⟩)),(1,.slice an had.length ao),(2,.slice op c.length oc),(6,.int .i64 i),(7,.pointer (some ⟨X,0,none⟩)),(8,.int .i64 k'),(9,.int .i64 r),(11,.int .i64 y),(13,.int .i64 z1),(14,.int .i64 z2),(19,.slice (some a) p.length bc),(20,.int .i64 p.length),(21,.int .i64 i),(36,.slice (some ga) s.rows.length k),(37,.int .i64 s.rows.length),(38,.int .i64 r),(43,.slice (some gt) row.length c1),(44,.int .i64 row.length),(45,.int .i64 y),(101,.bool bq)]) ?_ ?_
  ·obtain ⟨a2,q2,k2,eq2,-,-,d0,ah⟩:=Ak.at (Ak.ext hc ab) hu;subst eq2;have d1:=ah 2 _ rfl;refine CW.drawG (Ae bv) 31 (λw' h=>h) (by kernel_rfl) λe0 d2=>?_;refine Bp ?_;by_cases ai:0≤z1;rotate_left
   ·have hb:bq=false:=by rw [b6];exact decide_eq_false λh=>ai h.1
    refine GW.know (t:=72) (c:=false) rfl (by simp;omega) ?_;refine Bp ?_;refine W0 29 ?_;refine Bp ?_;refine GW.tail rfl (by kernel_rfl) (λhS=>?_);refine Sa ?_;exact QW.head () hS (by rw [hb];exact ((Ad.cons rfl (Ad.cons rfl (Ad.cons rfl (Ad.cons rfl (Ad.cons rfl (Ad.cons rfl (Ad.cons rfl (Ad.cons rfl (Ad.cons rfl (Ad.cons rfl (Ad.cons rfl (Ad.cons rfl (Ad.cons rfl (Ad.cons rfl (Ad.cons rfl (Ad.cons rfl (Ad.cons rfl (Ad.cons rfl (Ad.cons rfl (Ad.cons rfl (Ad.nil)))))))))))))))))))))))
   refine GW.know (t:=72) (c:=true) rfl (by simp;omega) ?_;refine Bp ?_;by_cases aj:0≤z2;rotate_left
   ·have hb:bq=false:=by rw [b6];exact decide_eq_false λh=>aj h.2.1
    refine GW.know (t:=76) (c:=false) rfl (by simp;omega) ?_;refine Bp ?_;refine W0 29 ?_;refine Bp ?_;refine GW.tail rfl (by kernel_rfl) (λhS=>?_);refine Sa ?_;exact QW.head () hS (by rw [hb];exact ((Ad.cons rfl (Ad.cons rfl (Ad.cons rfl (Ad.cons rfl (Ad.cons rfl (Ad.cons rfl (Ad.cons rfl (Ad.cons rfl (Ad.cons rfl (Ad.cons rfl (Ad.cons rfl (Ad.cons rfl (Ad.cons rfl (Ad.cons rfl (Ad.cons rfl (Ad.cons rfl (Ad.cons rfl (Ad.cons rfl (Ad.cons rfl (Ad.cons rfl (Ad.nil)))))))))))))))))))))))
   obtain ⟨rowc,a0⟩:∃r,u.rows[z1.toNat]?=some r:=⟨_,List.getElem?_eq_getElem (by omega)⟩;have d4:=aw.wide rowc (List.mem_of_getElem? a0);obtain ⟨tc,b7⟩:∃r,rowc[z2.toNat]?=some r:=⟨_,List.getElem?_eq_getElem (by omega)⟩;obtain ⟨gc,q3,c3,eq3,-,bt,bx⟩:=AJ.at d0 a0;subst eq3;rw [show ((z1.toNat:Nat):Int).toNat=z1.toNat by omega] at bx;obtain ⟨gd,eq4,-,-,d5⟩:=Av.at bt b7;subst eq4;rw [show ((z2.toNat:Nat):Int).toNat=z2.toNat by omega] at d5;have d6:Jk u z1 z2=tc:=by rw [Jk,Dc a0,Dc b7]
   refine GW.know (t:=76) (c:=true) rfl (by simp;omega) ?_;refine Bp ?_;refine CX 29 λhS=>?_;refine Lb ?_;refine Ap rfl rfl (Rz tx s.name (A4 p c) _ (by omega) _ (g0.ext (ab.trans hS)) (c2 _ (a8.ext hS)) ad) ?_;rintro v b5 ⟨rfl,a1⟩;have aa:=hS.trans a1;clear hS;apply LW.nil;refine QW.headed aa ?_;refine Bp ?_;refine GW.tail rfl (by kernel_rfl) (λhS=>?_);have hb:bq=decide (tc=D0 s.name (A4 p c) tx):=by
    rw [b6,d6];by_cases e:tc=D0 s.name (A4 p c) tx
    ·simp [ai,aj,e]
    ·simp [e]
   refine Sa ?_;exact QW.head () hS (by rw [hb];exact ((Ad.cons rfl (Ad.cons rfl (Ad.cons rfl (Ad.cons rfl (Ad.cons rfl (Ad.cons rfl (Ad.cons rfl (Ad.cons rfl (Ad.cons rfl (Ad.cons rfl (Ad.cons rfl (Ad.cons rfl (Ad.cons rfl (Ad.cons rfl (Ad.cons rfl (Ad.cons rfl (Ad.cons rfl (Ad.cons rfl (Ad.cons rfl (Ad.cons rfl (Ad.nil)))))))))))))))))))))))
  rintro ⟨⟩ b5 a1;show CW _ _ _ _ _ [(0,.pointer (some ⟨A,0,none⟩)),(1,.slice an had.length ao),(2,.slice op c.length oc),(6,.int .i64 i),(7,.pointer (some ⟨X,0,none⟩)),(8,.int .i64 k'),(9,.int .i64 r),(11,.int .i64 y),(13,.int .i64 z1),(14,.int .i64 z2),(19,.slice (some a) p.length bc),(20,.int .i64 p.length),(21,.int .i64 i),(36,.slice (some ga) s.rows.length k),(37,.int .i64 s.rows.length),(38,.int .i64 r),(43,.slice (some gt) row.length c1),(44,.int .i64 row.length),(45,.int .i64 y),(101,.bool bq)] _;have b8:=a8.ext a1;have b9:=a3 _ b8;have ak:=a5.ext a1;have ac:Chg S0 w9 b5:=(a4.ext am).ext a1;refine Sa ?_;refine Am (λh4=>?_) λh4=>?_;rotate_left
  ·rw [b6] at h4;rw [if_neg (of_decide_eq_false h4)] at hK;refine Sw ?_;exact QW.again (y+1) ⟨by omega,ac,by show Bk _ _ _ (E9 _ _ _ _ _ _ _ _ _ (y+1) _) _ _;rw [a7,hK];exact ak⟩ (Ad.cons rfl (Ad.cons rfl (Ad.cons rfl (Ad.cons rfl (Ad.cons rfl (Ad.cons rfl (Ad.cons rfl (Ad.cons rfl (Ad.cons rfl (Ad.cons rfl (Ad.cons rfl (Ad.cons rfl (Ad.cons rfl (Ad.cons rfl (Ad.cons rfl (Ad.cons rfl (Ad.nil))))))))))))))))) (by omega)
  rw [b6] at h4;have cg:=of_decide_eq_true h4;rw [if_pos cg] at hK;obtain ⟨ai,aj,-⟩:=cg;obtain ⟨rowc,a0⟩:∃r,u.rows[z1.toNat]?=some r:=⟨_,List.getElem?_eq_getElem (by omega)⟩;have d4:=aw.wide rowc (List.mem_of_getElem? a0);obtain ⟨EJ,xT,e1,e2,e3,e4⟩:=b1.at hu a0;obtain ⟨TB,tb',TM,tm,tx',eqv,e9,d7,d8,tsp,d9⟩:=ak.at e1 e2 (λe=>by rw [e] at e3;simp at e3;omega);obtain ⟨rfl,-,-⟩:=Value.slice.inj eqv;rw [show ((z1.toNat:Nat):Int).toNat=z1.toNat by omega] at d7;obtain ⟨rowsH,xH,e5,e6,e7,e8⟩:=hfit.at hs a9;obtain ⟨ea,eb,ec,rfl,da,ed⟩:=ET.at (ET.ext hh b9) e5;obtain ⟨ee,ef,eg,rfl,-,bz,eh⟩:=AJ.at da e6;obtain ⟨vH,ci⟩:∃v,xH[y]?=some v:=⟨_,List.getElem?_eq_getElem (by omega)⟩;obtain ⟨ei,rfl,-,db,ej⟩:=Av.at bz ci;have ek:=(List.getElem?_eq_some_iff.1 e5).1;have el:=(List.getElem?_eq_some_iff.1 e1).1;refine Sw ?_;refine CW.drawG (Ae b5) 19 (λw' h=>h) (by kernel_rfl) λwc em=>?_;refine Bp ?_;refine GW.tail rfl (by kernel_rfl) (λhS=>?_);refine LW.store (i:=0+z2.toNat*1) (by show some (Value.pointer (some (Addr.add ⟨f k' z1.toNat,0,none⟩ (z2.toNat*1))))=_;rw [A0]) rfl rfl (d9.ext hS) (Nat.ble_eq_true_of_le (by show _+1≤_;rw [List.length_append,List.length_map];omega)) rfl rfl λdd ba bb=>?_;rw [show 0+z2.toNat*1=z2.toNat by omega,List.set_append_left _ _ (by rw [List.length_map];omega),←List.map_set] at bb;have c0:=(ak.ext hS).set e1 e2 (by omega) db ba bb;have de:f k' z1.toNat∈S0:=(al _).2 ⟨d8,by
   obtain ⟨rows0,x0,f1,f2,f3,f4⟩:=hf0.at hu a0;obtain ⟨_,_,_,_,_,_,_,_,_,_,h9⟩:=hT1.at f1 f2 (λe=>by rw [e] at f3;simp at f3;omega);exact h9.lt⟩
  have bd:Chg S0 w9 dd:=(ac.ext hS).same (ba.mono λb hb _=>by simp only [List.mem_singleton] at hb;rw [hb];exact de);refine Sw ?_;exact QW.again (y+1) ⟨by omega,bd,by show Bk _ _ _ (E9 _ _ _ _ _ _ _ _ _ (y+1) _) _ _;rw [a7,hK,Sf e5 e6 ci];exact c0⟩ (Ad.cons rfl (Ad.cons rfl (Ad.cons rfl (Ad.cons rfl (Ad.cons rfl (Ad.cons rfl (Ad.cons rfl (Ad.cons rfl (Ad.cons rfl (Ad.cons rfl (Ad.cons rfl (Ad.cons rfl (Ad.cons rfl (Ad.cons rfl (Ad.cons rfl (Ad.cons rfl (Ad.nil))))))))))))))))) (by omega)
theorem PL:∀(r:List (List UInt8×A1)) (st:A1×AD),(r.foldl (λ(st:A1×AD) x=>(x.2,HM st.1 x.2 x.1 st.2)) st).1=((r.getLast?).map Prod.snd).getD st.1
 | [],st=>rfl
 | [x],st=>rfl
 | x::y::r,st=>by
  rw [List.foldl_cons,PL (y::r),List.getLast?_cons_cons]
  cases h:(y::r).getLast? with
  | none=>simp at h
  | some z=>rfl
theorem Rv (x0 x:List UInt8×A1) (r:List (List UInt8×A1)):Ed (x0::(r++[x]))=HM (((x0::r).getLast?).map Prod.snd |>.getD []) x.2 x.1 (Ed (x0::r)):=by
 obtain ⟨id,b⟩:=x0;show ((r++[x]).foldl (λ(st:A1×AD) x=>(x.2,HM st.1 x.2 x.1 st.2)) (b,GD b id)).2=_;rw [List.foldl_append];show HM (r.foldl (λ(st:A1×AD) x=>(x.2,HM st.1 x.2 x.1 st.2)) (b,GD b id)).1 x.2 x.1 _=_;rw [PL]
 congr 1
 cases r with
 | nil=>rfl
 | cons y r=>
  rw [List.getLast?_cons_cons]
  cases h:(y::r).getLast? with
  | none=>simp at h
  | some z=>rfl
theorem Ru (x:List UInt8×A1):D4 (Ed [x]) x.2:=HS x.2 x.1
def Eo:Option Nat→Int
 | some i=>i
 | none=>-1
theorem U3 {l:AC} {id:List UInt8} {k:Nat} {c:AV} (h:∀j d,j<k→l[j]?=some d→d.id≠id) (hk:l[k]?=some c) (hc:c.id≠id):∀j d,j<k+1→l[j]?=some d→d.id≠id:=λj d hj hd=>by
 by_cases e:j=k
 ·subst e;rw [hk] at hd;obtain rfl:=Option.some.inj hd;exact hc
 ·exact h j d (by omega) hd
theorem Pl {l:AC} {id:List UInt8} (h:∀j d,j<l.length→l[j]?=some d→d.id≠id):Ep l id=none:=by
 cases e:Ep l id with
 | none=>rfl
 | some k=>
  obtain ⟨c,h1,h2,-⟩:=Gi e;exact absurd h2 (h k c (List.getElem?_eq_some_iff.1 h1).1 h1)
theorem CP (l:AC) (v:Value) (id:List UInt8) (w:World) (h:Dw w v l):AA Tryz.prog 18 [v,Aj id] w (λr w'=>r=.int .i64 (Eo (Ep l id))∧Ae w w'):=by
 obtain ⟨p,c,rfl⟩:=h.slice;have hl:=h.1;refine AL Tryz.func18 Tryz.ntmps18 ?_;refine Sa ?_;refine CW.loop (ι:=Nat) (λk w'=>k≤l.length∧Ae w w'∧∀j d,j<k→l[j]?=some d→d.id≠id) (λk=>[(0,.slice p l.length c),(1,Aj id),(5,.int .i64 k)]) (λk=>l.length - k) 0 ⟨by omega,Chg.refl _ _,λ_ _ h=>by omega⟩ Bh ?_;rintro k w1 ⟨hk,hx,a1⟩;replace h:=h.ext hx;refine Sa ?_;refine Am (λh2=>?_) λh2=>?_
 ·have h2:k<l.length:=by simp at h2;omega
  obtain ⟨cm,hc⟩:∃s,l[k]?=some s:=⟨_,List.getElem?_eq_getElem h2⟩;obtain ⟨a,q,n,bv,rfl,-,a0⟩:=Dw.at h hc;have a2:=a0 0 _ rfl;refine Sw ?_;refine Am (λh3=>?_) λh3=>?_
  ·have h3:cm.id=id:=by simpa using h3
   refine Sa ?_;exact QW.body1 Tryz.results18 rfl ⟨by rw [LK hc h3 a1];rfl,hx⟩
  ·have h3:cm.id≠id:=by simpa using h3
   refine Sa ?_;exact QW.again (k+1) ⟨by omega,hx,U3 a1 hc h3⟩ Bh (by omega)
 ·have h2:k=l.length:=by simp at h2;omega
  subst h2;refine Sa ?_;exact QW.body1 Tryz.results18 rfl ⟨by rw [Pl a1];rfl,hx⟩
def Rn (l:AC) (k:Nat):List UInt8:=(l[k]?.map AV.id).getD []
def Bt (l:AC) (id:List UInt8):List (List UInt8):=(Cp l id).map (Rn l)
theorem KZ {l:AC} {k:Nat} {c:AV} (h:l[k]?=some c):Rn l k=c.id:=by rw [Rn,h];rfl
theorem IC {l:AC} (h:GK l=true) {k:Nat} {c:AV} (hc:l[k]?=some c):Ee l l.length (some k)=k::match c.parents with
  | []=>[]
  | p::_=>Ee l l.length (Ep l p):=by
 have hk:=(List.getElem?_eq_some_iff.1 hc).1;obtain ⟨n,hn⟩:∃q,l.length=q+1:=⟨l.length - 1,by omega⟩;rw [hn,Ee,hc]
 congr 1
 simp only
 cases hp:c.parents with
 | nil=>rfl
 | cons p r=>
  simp only;obtain ⟨j,hj,a0⟩:=EC h hc (p:=p) (by rw [hp];exact List.mem_cons_self ..);rw [hj];exact Rw h j n (n+1) (by omega) (by omega) (by omega)
def NJ:Option Nat→Nat
 | some k=>k+1
 | none=>0
theorem IB (l:AC) (n:Nat):Ee l n none=[]:=by cases n<;>rfl
theorem Ty (l:AC) (h:GK l=true):∀(k:Nat),k<l.length→(Ee l l.length (some k)).length≤k+1:=by
 intro k
 induction k using Nat.strongRecOn with
 | _ k ih=>
  intro hk;obtain ⟨c,hc⟩:∃c,l[k]?=some c:=⟨_,List.getElem?_eq_getElem hk⟩;rw [IC h hc]
  cases hp:c.parents with
  | nil=>simp
  | cons p r=>
   obtain ⟨j,hj,a0⟩:=EC h hc (p:=p) (by rw [hp];exact List.mem_cons_self ..);have:=ih j a0 (by omega);simp only [hj,List.length_cons];omega
theorem Ib {l:AC} (h:GK l=true) (id:List UInt8):(Cp l id).length≤l.length:=by
 unfold Cp
 cases e:Ep l id with
 | none=>rw [IB];simp
 | some k=>have:=Ty l h k (Ga e);have:=Ga e;omega
set_option maxRecDepth 8000 in
set_option maxHeartbeats 2000000 in
theorem TS (l:AC) (v:Value) (id:List UInt8) (w:World) (h:Dw w v l) (hm:GK l=true) (hl:l.length≤1000):AA Tryz.prog 33 [v,Aj id] w (λr w'=>E.Ax w' w.heap.size 9 1 r (Bt l id).length ((Bt l id).map Aj)∧Ae w w'):=by
 obtain ⟨p,c,rfl⟩:=h.slice;have ah:=Ib hm id;have h0:=h;refine AL Tryz.func33 Tryz.ntmps33 ?_;refine Sa ?_;refine Ap rfl rfl (CP l _ id w h) ?_;rintro v w1 ⟨rfl,aa⟩;refine Sa ?_;refine CW.loop (ι:=List Nat×List UInt8×Value) (λx w'=>x.1++Ee l l.length (Ep l x.2.1)=Cp l id∧Ae w w'∧E.Ax w' w.heap.size 9 1 x.2.2 x.1.length ((x.1.map (Rn l)).map Aj)) (λx=>[(0,.slice p l.length c),(5,x.2.2),(6,.int .i64 (Eo (Ep l x.2.1)))]) (λx=>NJ (Ep l x.2.1)) ([],id,.slice none 0 0) ⟨rfl,aa,E.Ax.nil _ _ _ _⟩ Bh ?_;rintro ⟨dn,cur,ov⟩ w2 ⟨a0,a5,a6⟩;dsimp only at a0 a6;show CW _ _ _ _ _ [(0,.slice p l.length c),(5,ov),(6,.int .i64 (Eo (Ep l cur)))] _;replace h:=h.ext a5;have ai:=a5.size
 cases ho:Ep l cur with
 | none=>
  rw [ho,IB,List.append_nil] at a0;refine Sw ?_;refine QW.body1 Tryz.results33 rfl ⟨?_,a5⟩;rw [Bt,←a0,List.length_map]
  exact a6
 | some k=>
  have hk:=Ga ho;obtain ⟨cm,hc⟩:∃s,l[k]?=some s:=⟨_,List.getElem?_eq_getElem hk⟩;rw [ho,IC hm hc] at a0;have aj:dn.length<l.length:=by
   have e:=congrArg List.length a0;simp only [List.length_append,List.length_cons] at e;omega
  obtain ⟨a,q,n,bv,rfl,hp,a2⟩:=Dw.at h hc;have ak:=a2 0 _ rfl;have al:=a2 1 _ rfl;show CW _ _ _ _ _ [(0,.slice (some a) l.length c),(5,ov),(6,.int .i64 (k:Int))] _;refine Sw ?_;refine Cl λC w3 am a8 hC=>?_;have an:=a8.size;refine Sa ?_;refine LW.append (lo:=w.heap.size) (k:=dn.length) rfl rfl rfl rfl rfl rfl (a6.ext a8) (by omega) hC rfl rfl rfl (by show (_+1)*17≤_;omega) rfl ?_;intro v4 w4 ab ac _;have a4:E.Ax w4 w.heap.size 9 1 v4 (dn++[k]).length (((dn++[k]).map (Rn l)).map Aj):=by
   rw [List.length_append,List.map_append,List.map_append];simp only [List.map_cons,List.map_nil,KZ hc];exact ac
  have a1:=(a5.trans a8).step ab (λb hb=>(a6.lt hb).1);obtain ⟨a',q',n',bv',e',ad,a3⟩:=Dw.at (h0.ext a1) hc;obtain rfl:=Option.some.inj e';have ae:=a3 1 _ rfl;refine Sw ?_;refine Am (λh2=>?_) λh2=>?_
  ·have h2:cm.parents=[]:=by
    cases e:cm.parents with
    | nil=>rfl
    | cons p r=>rw [e] at h2;simp at h2;omega
   rw [h2] at a0;refine Sw ?_;refine QW.body1 Tryz.results33 rfl ⟨?_,a1⟩;rw [Bt,←a0,List.length_map];exact a4
  obtain ⟨pp,pr,a7⟩:∃s r,cm.parents=s::r:=by
   cases e:cm.parents with
   | nil=>rw [e] at h2;simp at h2
   | cons p r=>exact ⟨p,r,rfl⟩
  obtain ⟨j,hj,ao⟩:=EC hm hc (p:=pp) (by rw [a7];exact List.mem_cons_self ..);have ap:0<cm.parents.length:=by rw [a7];simp
  obtain ⟨qa,rfl,-,af⟩:=ad.at (i:=0) (s:=pp) (by rw [a7];rfl);rw [a7] at a0;simp only at a0;have ag:w4.cell? (qa.add 0)=some (Aj pp):=af;refine Sw ?_;refine Ap rfl rfl (CP l _ pp w4 (h0.ext a1)) ?_;rintro v w5 ⟨rfl,a9⟩;refine Sa ?_;refine QW.again (dn++[k],pp,v4) ⟨by show (dn++[k])++Ee l l.length (Ep l pp)=_;rw [List.append_assoc];exact a0,a1.trans a9,a4.ext a9⟩ Bh ?_;show NJ (Ep l pp)<NJ (some k);rw [hj];show j+1<k+1;omega
theorem PJ {xs:List (List UInt8×A1)} {y:List UInt8×A1} (x:List UInt8×A1) (h:xs.getLast?=some y):Ed (xs++[x])=HM y.2 x.2 x.1 (Ed xs):=by
 cases xs with
 | nil=>simp at h
 | cons x0 r=>
  rw [List.cons_append,Rv,h];rfl
theorem PI:∀(n:Nat) {xs:List (List UInt8×A1)} {y:List UInt8×A1},xs.length=n→xs.getLast?=some y→D4 (Ed xs) y.2
 | 0,xs,y,hl,h=>by
  have:xs=[]:=List.eq_nil_of_length_eq_zero hl;subst this
  simp at h
 | n+1,xs,y,hl,h=>by
  obtain ⟨zs,z,rfl⟩:∃zs z,xs=zs++[z]:=⟨xs.dropLast,y,by
   have hn:xs≠[]:=λe=>by rw [e] at hl;simp at hl
   rw [List.getLast?_eq_some_getLast hn] at h;obtain rfl:=Option.some.inj h;exact (List.dropLast_concat_getLast hn).symm⟩
  rw [List.getLast?_append] at h;simp at h;subst h
  cases hz:zs.getLast? with
  | none=>
   have:zs=[]:=by simpa using hz
   subst this
   exact Ru z
  | some u=>
   rw [PJ z hz];exact RL _ _ _ _
def Rh (l:AC) (k:Nat):List UInt8×A1:=match l[k]? with
 | some c=>(c.id,c.book)
 | none=>([],[])
theorem Jl {l:AC} {k:Nat} {c:AV} (h:l[k]?=some c):Rh l k=(c.id,c.book):=by rw [Rh,h]
noncomputable def GE (l:AC) (id:List UInt8):AD:=Ed ((Cp l id).reverse.map (Rh l))
theorem Ss {l:AC} {id:List UInt8}:∀k∈Cp l id,k<l.length:=λk hk=>PK _ _ (λ_ h=>Ga h) k hk
theorem Ju {l:AC} (hm:GK l=true) {id:List UInt8} {i k:Nat} (h:(Cp l id)[i]?=some k):∃c,l[k]?=some c∧(Bt l id)[i]?=some c.id∧Ep l c.id=some k:=by
 have hk:=Ss k (List.mem_of_getElem? h);obtain ⟨c,hc⟩:∃c,l[k]?=some c:=⟨_,List.getElem?_eq_getElem hk⟩;refine ⟨c,hc,?_,Vc hm hc⟩;rw [Bt,List.getElem?_map,h];exact congrArg some (KZ hc)
theorem NK (l:AC) (id:List UInt8):(Bt l id).length=(Cp l id).length:=by rw [Bt,List.length_map]
def Ea (l:AC) (id:List UInt8) (i:Nat):List (List UInt8×A1):=((Cp l id).drop i).reverse.map (Rh l)
theorem I5 {l:AC} {id:List UInt8} {i k:Nat} (h:(Cp l id)[i]?=some k):Ea l id i=Ea l id (i+1)++[Rh l k]:=by
 have hi:=(List.getElem?_eq_some_iff.1 h).1;have e:(Cp l id).drop i=k::(Cp l id).drop (i+1):=by
  rw [List.drop_eq_getElem_cons hi]
  congr 1
  exact (List.getElem?_eq_some_iff.1 h).2
 rw [Ea,e,List.reverse_cons,List.map_append];rfl
theorem Mg {l:AC} {id:List UInt8} {i k:Nat} (h:(Cp l id)[i]?=some k):(Ea l id i).getLast?=some (Rh l k):=by
 rw [I5 h,List.getLast?_append];rfl
theorem NG {l:AC} {id:List UInt8} {i k:Nat} (h:(Cp l id)[i]?=some k) (hi:i+1=(Cp l id).length):Ea l id i=[Rh l k]:=by
 rw [I5 h,Ea,hi,List.drop_length];rfl
theorem LP {l:AC} {id:List UInt8} {i k j:Nat} {c p:AV} (hk:(Cp l id)[i]?=some k) (hj:(Cp l id)[i+1]?=some j) (hc:l[k]?=some c) (hp:l[j]?=some p):Ed (Ea l id i)=HM p.book c.book c.id (Ed (Ea l id (i+1))):=by
 rw [I5 hk,PJ _ (Mg hj),Jl hc,Jl hp]
theorem LO {l:AC} {id:List UInt8} {j:Nat} {i:Nat} {p:AV} (hj:(Cp l id)[i]?=some j) (hp:l[j]?=some p):D4 (Ed (Ea l id i)) p.book:=by
 have:=PI _ rfl (Mg hj)
 rwa [Jl hp] at this
end Go.Proofs.YtefaigjfkddelaaGreatDoor
