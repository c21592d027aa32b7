/-
  Joined by program out of the texts LawM0 Tur1 PasT Tur2 PasU.
-/
import Derived.Test.YtefaigjfkddelaaGreatDoorPnP
import Derived.Test.YtefaigjfkddelaaGreatDoorPnK
import Derived.Test.YtefaigjfkddelaaGreatDoorPnQ
import Derived.Test.YtefaigjfkddelaaGreatDoorPnB
import Derived.Test.YtefaigjfkddelaaGreatDoorPnR
namespace Go.Proofs.YtefaigjfkddelaaGreatDoor
open Tryz
open Go Go.E
def J8(w:World)(v:Value)(zs:List Int):Prop:=QM .u8 w v zs∧(∀z∈zs,0≤z∧z≤255)∧∀p n k,v=.slice p n k→n≤k
def QS:Prop:=∀(ds ks ts:List Int) (dv kv tv:Value) (n:Nat) (w:World),Dg w→J8 w dv ds→J8 w kv ks→J8 w tv ts→n<256→ks.length≤40→ts.length≤60→
 AF prog 15 [dv,kv,.int .u8 (n:Int),tv] w (λv w'=>∃l,C4 [] w.heap.size w' v l∧EJ l=true∧l.length≤20∧(∀c∈l,c.id.length=3)∧Ae w w')
theorem Zy{l:A7}{id:List UInt8}(h:∀c∈l,c.id.length=3)(hi:id.length≠3):DM l id=none:=by
 cases e:DM l id with
 | none=>rfl
 | some k=>
  obtain⟨c,h1,h2,-⟩:=Ez e;exact absurd (h2 ▸ h c (Aa9 h1)) hi
theorem UN{lo D:Nat}{w:World}{s:Af}{rv:Value}{T:TypeId}(h:Blk w D (Ap s rv) T)(hn:s.name.length≤1000000)(hr:AO (EX lo) (λ_=>EX lo) w rv s.rows)(hlo:lo≤D):Bq lo w (.slice (some ⟨D,0,none⟩) 1 1) [s]:=by
 refine⟨by simp,.inr ⟨⟨D,0,none⟩,1,rfl,λ_=>hlo,λi x hi=>?_⟩⟩
 cases i with
 | zero=>
  obtain rfl:=Aa5 hi;refine⟨Ap s rv,rfl,⟨rv,rfl,hn,hr⟩,λj u hj=>?_⟩;rw[An,An];refine h.cell ?_;rw[show 0+0*3+j=j by omega]
  exact hj
 | succ i=>simp at hi
theorem newR.old{lo:Nat}{S:List Nat}{w w':World}{v:Value}{l:List (List (List UInt8))}(h:AO (EX lo) (λ_=>EX lo) w v l)(x:Chg S w w')(hS:∀b∈S,b<lo):AO (EX lo) (λ_=>EX lo) w' v l:=
 AO.chg h x (λa ha hm=>by have:=hS _ hm;have:lo≤a.block:=ha;omega) (λ_ _ a _ _ ha hm=>by have:=hS _ hm;have:lo≤a.block:=ha;omega)
theorem newR.low{lo lo':Nat}{w:World}{v:Value}{l:List (List (List UInt8))}(h:AO (EX lo) (λ_=>EX lo) w v l)(hl:lo'≤lo):AO (EX lo') (λ_=>EX lo') w v l:=
 Ao.map h (λ_ h=>Acr hl h) λ_ _ _ _ ⟨u,e,ht⟩=>⟨u,e,Ao.map ht (λ_ h=>Acr hl h) λ_ _ _ _ h=>h⟩
theorem C6.new{lo lo' hi:Nat}{w:World}{v:Value}{b:Ag}(h:C6 lo hi w v b)(hl:lo'≤lo):Bq lo' w v b:=
 Ao.map h (λ_ h=>Acr hl h.1) λ_ _ _ _ ⟨rv,e,hn,hr⟩=>⟨rv,e,hn,Ao.map hr (λ_ h=>Acr hl h.1) λ_ _ _ _ ⟨u,e,ht⟩=>⟨u,e,Ao.map ht (λ_ h=>Acr hl h.1) λ_ _ _ _ h=>h⟩⟩
theorem TT{w:World}{a b:Nat}{xs ys:List Value}{T T':TypeId}(h:Blk w a xs T)(h':Blk w b ys T')(hT:T≠T'):a≠b:=λe=>by
 subst e;have:=h.symm.trans h';simp only[Aa3,Aet] at this;exact hT this.2.1
theorem Vy{s:Af}(h:AJ s=true):A5 [s]=true:=AP.2 ⟨by simp,by simpa using h,by simp⟩
theorem WE{b:Ag}{s:Af}(h:Bp b=Bp [s]):∃t,b=[t]∧t.name=s.name:=by
 match b,h with
 | [t],h=>exact⟨t,rfl,by simpa[Bp] using h⟩
 | [],h=>simp[Bp] at h
 | _::_::_,h=>simp[Bp] at h
set_option maxRecDepth 8000 in
set_option maxHeartbeats 16000000 in
theorem Ki(s:Af)(rv:Value)(tp:Option Addr)(tc:Nat)(ts:List Int)(w:World)(hr:EK w rv s.rows)(hm:AJ s=true)(ht:QM .u8 w (.slice tp ts.length tc) ts)(hz:∀z∈ts,0≤z∧z≤255)(hl:ts.length≤1000) :
  AF prog 53 [.agg ⟨Ap s rv⟩,.slice tp ts.length tc] w (λv w'=>∃u s',v=.agg ⟨Ap s' u⟩∧AJ s'=true∧s'.name=s.name∧AO (EX w.heap.size) (λ_=>EX w.heap.size) w' u s'.rows∧Ae w w'):=by
 obtain⟨p,c,rfl⟩:=Ao.slice hr;have ce:s.name.length≤12:=(EW (Cr.1 hm).1).2.1;refine AQ func53 ntmps53 ?_;apply CW.seq;apply CW.region;refine Sl ?_;refine Dq λA w1 cf bi hA=>?_;replace hA:Blk w1 A (Ap s (.slice p s.rows.length c)) 41:=hA;refine Sa ?_;refine BX λR w2 cg au hR=>?_;have ci:=hR.lt;have al:=bi.trans au;replace hA:=hA.ext au;refine Sw ?_;refine Ax rfl rfl (Jw s _ w2 Aez (AO.ext hr al)) ?_;rintro v w3 ⟨u,g,rfl,bj,av⟩;obtain⟨p3,c3,rfl⟩:=Ao.slice bj.list;refine Sw ?_;refine Cx λD w4 cj bk hD=>?_;replace hD:Blk w4 D (Ap s (.slice p3 s.rows.length c3)) 41:=hD;have ck:=hD.lt;refine Sw ?_;refine BX λK w5 cl aw hK=>?_;have cm:=hK.lt;refine Sw ?_;refine AR λw6 ax hK=>?_;have co:=bi.size;have cp:=au.size;have cq:=av.size;have cr:=bk.size;have cu:=aw.size;have cv:=ax.size;have ae:Ae w3 w6:=(bk.trans aw).step ax Ae0;have ay:Ae w w6:=(al.trans av).trans ae;have bq:Bq w2.heap.size w6 (.slice (some ⟨D,0,none⟩) 1 1) [s]:=UN ((hD.ext aw).chg ax Ae0) Aez (AO.ext bj.fresh ae) Aez;have br:=(hR.ext av).ext ae;refine Sw ?_;refine CW.loop (ι:=Nat×Value) (λx w'=>x.1≤ts.length∧Chg [K] w6 w'∧Blk w' K [x.2] 29∧∃s',Bq w2.heap.size w' x.2 [s']∧AJ s'=true∧s'.name=s.name) (λx=>[(1,.slice tp ts.length tc),(4,.pointer (some ⟨R,0,none⟩)),(5,.pointer (some ⟨K,0,none⟩)),(6,.int .i64 (x.1:Int))]) (λx=>ts.length - x.1) (0,.slice (some ⟨D,0,none⟩) 1 1) ⟨Ac8 _,Chg.refl _ _,hK,s,bq,hm,rfl⟩ B9 ?_;rintro⟨i,bv⟩ w7 ⟨hi,ab,az,s',am,ac,af⟩;dsimp only at hi az am;show CW _ _ _ _ _ [(1,.slice tp ts.length tc),(4,.pointer (some ⟨R,0,none⟩)),(5,.pointer (some ⟨K,0,none⟩)),(6,.int .i64 (i:Int))] _;have cw:=br.chg ab Ae0;have ag:Ae w w7:=ay.step ab Ae0;have cx:=ab.size;obtain⟨ba,bp,bc,e0,bs,bt,b0,ah⟩:∃a q k,bv=.slice (some a) 1 k∧w2.heap.size≤a.block∧s'.name.length≤1000000∧AO (EX w2.heap.size) (λ_=>EX w2.heap.size) w7 q s'.rows∧∀j u,(Ap s' q)[j]?=some u→w7.cell? ((a.add (((0:Nat):Int).toNat*3)).add j)=some u:=by
  obtain⟨q0,k0,rfl⟩:=Ao.slice am;obtain⟨a,q,k,rfl,h1,h2,h3,h4⟩:=Ak.at am (i:=0) (s:=s') rfl;exact⟨a,_,k0,rfl,h1,h2,h3,h4⟩
 subst e0;obtain⟨qp,qc,rfl⟩:=Ao.slice b0;have bu:=Cr.1 ac;refine Sw ?_;refine B6 (λh1=>?_) λh1=>?_;rotate_left
 ·refine Sw ?_;refine AR λw8 an b1=>?_;refine Sw ?_;exact QW.body_c rfl rfl b1 rfl rfl rfl ⟨_,s',rfl,ac,af,newR.low (newR.old b0 an Ae0) Aez,ag.step an Ae0⟩
 have h1:i<ts.length:=by simpa using h1
 refine Sw ?_;refine Av (λh2=>?_) λh2=>?_;rotate_left
 ·refine Sw ?_;refine AR λw8 an b1=>?_;refine Sw ?_;exact QW.body_c rfl rfl b1 rfl rfl rfl ⟨_,s',rfl,ac,af,newR.low (newR.old b0 an Ae0) Aez,ag.step an Ae0⟩
 obtain⟨z,bl⟩:∃z,ts[i]?=some z:=⟨_,Aak h1⟩;obtain⟨ta,rfl,cy⟩:=(ht.ext ag).at bl;have cz:=hz z (Aa9 bl);obtain⟨n,rfl⟩:∃n:Nat,z=n:=⟨z.toNat,by omega⟩;refine Sw ?_;refine BX λX w8 d0 bm hX=>?_;refine Sw ?_;refine AR λw9 bn hX=>?_;replace hX:Blk w9 X (Ap s' (.slice qp s'.rows.length qc)) 41:=hX;refine Sw ?_;refine BX λZ wa d1 b2 hZ=>?_;refine Sw ?_;refine AR λwb bo hZ=>?_;replace hZ:Blk wb Z (Tq (3+n % 4) s'.name (n / 4 % 7)) 96:=hZ;have d2:=hX.lt;have d4:=hZ.lt;have d5:=bm.size;have d6:=bn.size;have d7:=b2.size;have b3:Ae w7 w9:=bm.step bn Ae0;have a4:Ae w7 wb:=(b3.trans b2).step bo Ae0;have d8:=a4.size;have hX:=(hX.ext b2).chg bo Ae0;have b4:=az.ext a4;have aq:=Ak.ext am a4;have b5:∀j u,(Ap s' (.slice qp s'.rows.length qc))[j]?=some u→wb.cell? ((ba.add (((0:Nat):Int).toNat*3)).add j)=some u:=λj u hj=>A2 a4 (ah j u hj);obtain⟨C,hC⟩:∃C:Nat,s'.cols=C:=⟨s'.cols.toNat,by omega⟩;apply LW.nil;apply QW.then_n;refine CW.seq_cut (ι:=Unit) (λ_ w'=>wb=w') (λ_=>[(1,.slice (some ta) ts.length tc),(4,.pointer (some ⟨R,0,none⟩)),(5,.pointer (some ⟨K,0,none⟩)),(6,.int .i64 (i:Int)),(9,.pointer (some ⟨Z,0,none⟩))]) ?_ ?_
 ·refine Sw ?_;refine B6 (λh3=>?_) λh3=>?_;rotate_left
  ·refine Sw ?_;exact QW.head () rfl Cu
  refine Sw ?_;refine B6 (λh4=>?_) λh4=>?_;rotate_left
  ·refine Sw ?_;exact QW.head () rfl Cu
  refine Sw ?_;refine Av (λh5=>?_) λh5=>?_;rotate_left
  ·refine Sw ?_;exact QW.head () rfl Cu
  simp only[decide_eq_true_eq] at h4 h5;have d9:0≤(n:Int) / 5 % (s'.rows.length:Int)∧(n:Int) / 5 % (s'.rows.length:Int)<s'.rows.length:=⟨Int.emod_nonneg _ Aez,Int.emod_lt_of_pos _ Aez⟩;have da:0≤(n:Int) / 7 % s'.cols∧(n:Int) / 7 % s'.cols<s'.cols:=⟨Int.emod_nonneg _ Aez,Int.emod_lt_of_pos _ Aez⟩;obtain⟨row,ao⟩:∃x,s'.rows[((n:Int) / 5 % (s'.rows.length:Int)).toNat]?=some x:=⟨_,Aak Aez⟩;have db:=(bu.2.2.2.2 row (Aa9 ao)).1;have b6:OR [s'] s'.name ((n:Int) / 5 % (s'.rows.length:Int)) ((n:Int) / 7 % s'.cols)=true:=by
   have h0:IW [s'] s'.name=some 0:=by simp[IW]
   unfold OR;rw[h0];simp only[Ad2,Yk,AaE,ao,Adh,Abf,decide_eq_true_eq];omega
  obtain⟨s2,b7,b8,b9⟩:∃s2,HV [s'] s'.name ((n:Int) / 5 % (s'.rows.length:Int)) ((n:Int) / 7 % s'.cols) (IQ (n / 9))=([s2],0)∧AJ s2=true∧s2.name=s.name:=⟨_,JY (i:=0) (by rw[Vy ac,Mb];rfl) b6 (by simp[IW]),YS ac (Mb _),af⟩;have bb:∀w1,B5 w1 (.slice (some ba) 1 bc) [s']→AF prog 75 [.agg ⟨[.slice (some ba) 1 bc]⟩,.agg ⟨YY s'.name ((n:Int) / 5 % (s'.rows.length:Int)) ((n:Int) / 7 % s'.cols)⟩,Am (IQ (n / 9))] w1 (λr w'=>∃u,r=.tuple #[.agg ⟨[u]⟩,.int .i64 0]∧Bq w1.heap.size w' u [s2]∧Ae w1 w'):=λw1 h1=>by
   have h:=QY [s'] (.slice (some ba) 1 bc) s'.name ((n:Int) / 5 % (s'.rows.length:Int)) ((n:Int) / 7 % s'.cols) (IQ (n / 9)) w1 h1 (by have:=NT (Mb (n / 9));omega);rw[b7] at h;exact h
  refine Sw ?_;refine CW.drawG (Ae wb) 27 (λw' h=>h) Ae1 λwc ar=>?_;have hE:=ar;refine BD ?_;refine GW.two 15 25 Ae1 rfl rfl rfl rfl rfl rfl (λhS=>?_) (λhS=>?_)
  ·refine Cx λL wl bw a0 hL=>?_;have a1:wl.cell? ((⟨L,0,none⟩:Addr).add (((n:Int) / 9 % 4).toNat*1))=some (Am (IQ (n / 9))):=by
    rw[An];refine hL.cell ?_;have h4:n / 9 % 4=0∨n / 9 % 4=1∨n / 9 % 4=2∨n / 9 % 4=3:=Aez
    rw[show 0+((n:Int) / 9 % 4).toNat*1=n / 9 % 4 by omega];unfold IQ;rcases h4 with h4 | h4 | h4 | h4<;>rw[h4]<;>rfl
   have bd:=a0.size;have hE:=hE.trans a0;clear hS;apply LW.nil;refine QW.headed hE ?_;refine GW.rebase (λw'=>Ae wb w'∧w'.cell? ((⟨L,0,none⟩:Addr).add (((n:Int) / 9 % 4).toNat*1))=some (Am (IQ (n / 9)))) (λ_ h=>h.1) ⟨hE,a1⟩ ?_;refine BD ?_;refine GW.take 20 rfl rfl rfl rfl (λw hw=>Y.load_cell rfl hw.2 rfl rfl) rfl rfl Ae1 Ae1 Ae1 (λ_ _ _ h=>h) ?_;refine BD ?_;refine GW.two 21 25 Ae1 rfl rfl rfl rfl rfl rfl (λhS=>?_) (λhS=>?_)
   ·refine Ax rfl rfl (bb _ (Ak.of (Ak.ext aq hE))) ?_;rintro v wt ⟨u2,rfl,a3,a0⟩;have a3:=Bq.mid a3;have be:=hE.size;have e2:=Ao.slice a3;obtain⟨p2,c2,rfl⟩:=e2;replace hL:=by first | exact hL.ext a0 | exact Ao.ext' hL a0 (λ_ _ _ _ h=>h) | exact Ak.ext hL a0 | exact A2 a0 hL
    replace a1:=by first | exact a1.ext a0 | exact Ao.ext' a1 a0 (λ_ _ _ _ h=>h) | exact Ak.ext a1 a0 | exact A2 a0 a1
    have bx:=a0.size;have hE:=hE.trans a0;clear hS;apply LW.nil;refine QW.headed Afb ?_;refine BD ?_;refine DR 25 λhS=>?_;refine BX λQ0 wl a7 a0 a2=>?_;have hQ0lt:=a2.lt;have hQ0W:wb.heap.size≤Q0:=by rw[a7];exact hE.size
    replace hL:=by first | exact hL.ext a0 | exact Ao.ext' hL a0 (λ_ _ _ _ h=>h) | exact Ak.ext hL a0 | exact A2 a0 hL
    replace a1:=by first | exact a1.ext a0 | exact Ao.ext' a1 a0 (λ_ _ _ _ h=>h) | exact Ak.ext a1 a0 | exact A2 a0 a1
    replace a3:=by first | exact a3.ext a0 | exact Ao.ext' a3 a0 (λ_ _ _ _ h=>h) | exact Ak.ext a3 a0 | exact A2 a0 a3
    have bz:=a0.size;have hE:=hE.trans a0;clear hS;apply LW.nil;refine QW.headed Afb ?_;refine BD ?_;refine DR 26 λhS=>?_;have ap:=TT hL a2 Ae2;refine AR λwe a5 a2=>?_;have a8:=hE.step a5 Ae0;have ad:=C6.off a3 a5 Afx;have ak:=b4.ext a8;clear hS;apply LW.nil;refine QW.headed ⟨a8,Fi a5 (by rw[BQ];simpa using ap) a1⟩ ?_;refine GW.tail rfl Ae1 (λhS=>?_);refine Sw ?_;refine AR λwf a9 ai=>?_;have aj:=C6.new (C6.off ad a9 (.inl Aez)) (lo':=w2.heap.size) Aez;refine Sw ?_;exact QW.again (i+1,_) ⟨by show i+1≤_;omega,(ab.ext (a4.trans a8)).same a9,ai,_,aj,b8,b9⟩ B9 AeP
   ·refine BX λQ0 wl a7 a0 a2=>?_;have hQ0lt:=a2.lt;have hQ0W:wb.heap.size≤Q0:=by rw[a7];exact hE.size
    replace hL:=by first | exact hL.ext a0 | exact Ao.ext' hL a0 (λ_ _ _ _ h=>h) | exact Ak.ext hL a0 | exact A2 a0 hL
    replace a1:=by first | exact a1.ext a0 | exact Ao.ext' a1 a0 (λ_ _ _ _ h=>h) | exact Ak.ext a1 a0 | exact A2 a0 a1
    have c0:=a0.size;have hE:=hE.trans a0;clear hS;apply LW.nil;refine QW.headed Afb ?_;refine BD ?_;refine DR 21 λhS=>?_;refine Ax rfl rfl (bb _ (Ak.of (Ak.ext aq hE))) ?_;rintro v wt ⟨u2,rfl,a3,a0⟩;have a3:=Bq.mid a3;have be:=hE.size;have e2:=Ao.slice a3;obtain⟨p2,c2,rfl⟩:=e2;replace hL:=by first | exact hL.ext a0 | exact Ao.ext' hL a0 (λ_ _ _ _ h=>h) | exact Ak.ext hL a0 | exact A2 a0 hL
    replace a1:=by first | exact a1.ext a0 | exact Ao.ext' a1 a0 (λ_ _ _ _ h=>h) | exact Ak.ext a1 a0 | exact A2 a0 a1
    replace a2:=by first | exact a2.ext a0 | exact Ao.ext' a2 a0 (λ_ _ _ _ h=>h) | exact Ak.ext a2 a0 | exact A2 a0 a2
    have c1:=a0.size;have hE:=hE.trans a0;clear hS;apply LW.nil;refine QW.headed Afb ?_;refine BD ?_;refine DR 26 λhS=>?_;have ap:=TT hL a2 Ae2;refine AR λwe a5 a2=>?_;have a8:=hE.step a5 Ae0;have ad:=C6.off a3 a5 Afx;have ak:=b4.ext a8;clear hS;apply LW.nil;refine QW.headed ⟨a8,Fi a5 (by rw[BQ];simpa using ap) a1⟩ ?_;refine GW.tail rfl Ae1 (λhS=>?_);refine Sw ?_;refine AR λwf a9 ai=>?_;have aj:=C6.new (C6.off ad a9 (.inl Aez)) (lo':=w2.heap.size) Aez;refine Sw ?_;exact QW.again (i+1,_) ⟨by show i+1≤_;omega,(ab.ext (a4.trans a8)).same a9,ai,_,aj,b8,b9⟩ B9 AeP
  ·refine BX λQ0 wl a7 a0 a2=>?_;have hQ0lt:=a2.lt;have hQ0W:wb.heap.size≤Q0:=by rw[a7];exact hE.size
   have c4:=a0.size;have hE:=hE.trans a0;clear hS;apply LW.nil;refine QW.headed Afb ?_;refine BD ?_;refine DR 15 λhS=>?_;refine Cx λL wl bw a0 hL=>?_;have a1:wl.cell? ((⟨L,0,none⟩:Addr).add (((n:Int) / 9 % 4).toNat*1))=some (Am (IQ (n / 9))):=by
    rw[An];refine hL.cell ?_;have h4:n / 9 % 4=0∨n / 9 % 4=1∨n / 9 % 4=2∨n / 9 % 4=3:=Aez
    rw[show 0+((n:Int) / 9 % 4).toNat*1=n / 9 % 4 by omega];unfold IQ;rcases h4 with h4 | h4 | h4 | h4<;>rw[h4]<;>rfl
   replace a2:=by first | exact a2.ext a0 | exact Ao.ext' a2 a0 (λ_ _ _ _ h=>h) | exact Ak.ext a2 a0 | exact A2 a0 a2
   have bd:=a0.size;have hE:=hE.trans a0;clear hS;apply LW.nil;refine QW.headed hE ?_;refine GW.rebase (λw'=>Ae wb w'∧w'.cell? ((⟨L,0,none⟩:Addr).add (((n:Int) / 9 % 4).toNat*1))=some (Am (IQ (n / 9)))) (λ_ h=>h.1) ⟨hE,a1⟩ ?_;refine BD ?_;refine GW.take 20 rfl rfl rfl rfl (λw hw=>Y.load_cell rfl hw.2 rfl rfl) rfl rfl Ae1 Ae1 Ae1 (λ_ _ _ h=>h) ?_;refine BD ?_;refine DR 21 λhS=>?_;refine Ax rfl rfl (bb _ (Ak.of (Ak.ext aq hE))) ?_;rintro v wt ⟨u2,rfl,a3,a0⟩;have a3:=Bq.mid a3;have be:=hE.size;have e2:=Ao.slice a3;obtain⟨p2,c2,rfl⟩:=e2;replace hL:=by first | exact hL.ext a0 | exact Ao.ext' hL a0 (λ_ _ _ _ h=>h) | exact Ak.ext hL a0 | exact A2 a0 hL
   replace a1:=by first | exact a1.ext a0 | exact Ao.ext' a1 a0 (λ_ _ _ _ h=>h) | exact Ak.ext a1 a0 | exact A2 a0 a1
   replace a2:=by first | exact a2.ext a0 | exact Ao.ext' a2 a0 (λ_ _ _ _ h=>h) | exact Ak.ext a2 a0 | exact A2 a0 a2
   have c5:=a0.size;have hE:=hE.trans a0;clear hS;apply LW.nil;refine QW.headed Afb ?_;refine BD ?_;refine DR 26 λhS=>?_;have ap:=TT hL a2 Ae2;refine AR λwe a5 a2=>?_;have a8:=hE.step a5 Ae0;have ad:=C6.off a3 a5 Afx;have ak:=b4.ext a8;clear hS;apply LW.nil;refine QW.headed ⟨a8,Fi a5 (by rw[BQ];simpa using ap) a1⟩ ?_;refine GW.tail rfl Ae1 (λhS=>?_);refine Sw ?_;refine AR λwf a9 ai=>?_;have aj:=C6.new (C6.off ad a9 (.inl Aez)) (lo':=w2.heap.size) Aez;refine Sw ?_;exact QW.again (i+1,_) ⟨by show i+1≤_;omega,(ab.ext (a4.trans a8)).same a9,ai,_,aj,b8,b9⟩ B9 AeP
 rintro _ _ rfl;refine Sw ?_;refine Ax rfl rfl (VW [s'] _ 0 (3+n % 4) (n / 4 % 7) s' wb (Ak.of aq) (Vy ac) rfl Aez Aez) ?_;rintro v wc ⟨⟨u,sn,rt,rn,ct,cn,g,e,rfl,bf,he⟩,ar⟩;refine Sw ?_;refine BX λV wd dc bg hV=>?_;refine Sw ?_;refine LW.store_all rfl rfl bf hV rfl rfl rfl λwe a5 c6=>?_;have be:=ar.size;have dd:=bg.size;have de:=a5.size;have a6:Ae w7 we:=((a4.trans ar).trans bg).step a5 Ae0;have ak:=az.ext a6;have ad:=Ak.ext am a6;by_cases e0:e=0;rotate_left
 ·refine Sw ?_;refine LW.know (t:=91) (c:=false) rfl (by simp[e0]) ?_;refine Sw ?_;exact QW.again (i+1,_) ⟨by show i+1≤_;omega,ab.ext a6,ak,s',ad,ac,af⟩ B9 AeP
 obtain⟨b',c7,c8,c9⟩:=he e0;obtain⟨t,rfl,ca⟩:=WE c8;have cb:=(AP.1 c7).2.1 t Ae7;have bh:=C6.off (Ak.ext (Bq.mid c9) bg) a5 (.inr Aez);obtain⟨q0,k0,e2⟩:=Ao.slice bh;replace e2:u=.slice q0 1 k0:=e2;subst e2;obtain⟨ta2,tq,tk,rfl,-,-,df,aa⟩:=Ak.at bh (i:=0) (s:=t) rfl;have cc:=aa 1 _ rfl;have cd:=aa 2 _ rfl;refine Sw ?_;refine LW.know (t:=91) (c:=true) rfl (by simp[e0]) ?_;refine Sw ?_;refine B6 (λh7=>?_) λh7=>?_;rotate_left
 ·refine Sw ?_;exact QW.again (i+1,_) ⟨by show i+1≤_;omega,ab.ext a6,ak,s',ad,ac,af⟩ B9 AeP
 refine Sw ?_;refine Av (λh8=>?_) λh8=>?_;rotate_left
 ·refine Sw ?_;exact QW.again (i+1,_) ⟨by show i+1≤_;omega,ab.ext a6,ak,s',ad,ac,af⟩ B9 AeP
 refine Sw ?_;refine LW.load_agg (cs:=[.slice (some ta2) 1 k0]) rfl c6 rfl rfl rfl ⟨rfl,trivial⟩ rfl ?_;refine Sw ?_;refine AR λwf a9 ai=>?_;have aj:=C6.new (C6.off bh a9 (.inl Aez)) (lo':=w2.heap.size) Aez;refine Sw ?_;exact QW.again (i+1,_) ⟨by show i+1≤_;omega,(ab.ext a6).same a9,ai,t,aj,cb,ca.trans af⟩ B9 AeP
def Nf:Prop:=∀(N:List (List UInt8)) (b:Ag) (bv tv:Value) (ts:List Int) (w:World),YM (N++[Mq])→N.length≤3→B5 w bv b→A5 b=true→F1 N b→J8 w tv ts→ts.length≤60→
 AF prog 38 [.agg ⟨[bv]⟩,tv] w (λv w'=>∃u b',v=.agg ⟨[u]⟩∧Bq w.heap.size w' u b'∧A5 b'=true∧F1 N b'∧Ae w w')
theorem R7{w:World}{p:Option Addr}{c j:Nat}{zs:List Int}(h:QM .u8 w (.slice p zs.length c) zs)(hj:j≤zs.length):QM .u8 w (.slice p (zs.take j).length c) (zs.take j):=by
 have hl:(zs.take j).length=j:=by rw[Ac3];omega
 obtain⟨h0,⟨e,e2⟩ | ⟨a,cap,e,h⟩⟩:=h
 ·refine⟨by omega,.inl ⟨?_,by rw[e2];simp⟩⟩;obtain⟨rfl,e3,rfl⟩:=Acd e;rw[hl,show j=0 by omega]
 ·obtain⟨rfl,-,rfl⟩:=Acd e;refine⟨by omega,.inr ⟨a,c,rfl,λi z hz=>h i z ?_⟩⟩;rw[Adi] at hz
  split at hz
  ·exact hz
  ·cases hz
theorem VG{l:List Value}{i:Nat}{u:Value}(hi:i<l.length):l.take i++[u]++l.drop (i+1)=l.set i u:=by
 rw[Adt,if_pos hi];simp
def Nc(lo:Nat)(w:World)(cs:List Value)(s:Af):Prop:=∃rv,cs=Ap s rv∧s.name.length≤1000000∧AO (EX lo) (λ_=>EX lo) w rv s.rows
def FX(U:List Nat)(l0 lo:Nat)(w:World)(v:Value)(b:Ag):Prop:=B1 3 lo 41 (λ_ w cs s=>Dx (U++Ac v) w λw'=>Nc l0 w' cs s) w v b
theorem FX.ext{U:List Nat}{l0 lo:Nat}{w w':World}{v:Value}{b:Ag}(h:FX U l0 lo w v b)(x:Ae w w'):FX U l0 lo w' v b:=B1.ext' h x λ_ _ _ _ h=>h.ext x
theorem FX.chg{U S:List Nat}{l0 lo:Nat}{w w':World}{v:Value}{b:Ag}(h:FX U l0 lo w v b)(x:Chg S w w')(hs:∀b∈S,b∈U)(hn:∀b∈S,b∉Ac v):FX U l0 lo w' v b:=
 B1.chg h x (λb hb hm=>hn b hm hb) λ_ _ _ _ h=>h.step (x.mono λb hb _=>Ac4 _ (hs b hb)) λ_ hj=>.inl hj
theorem FX.list{U:List Nat}{l0 lo:Nat}{w:World}{v:Value}{b:Ag}(h:FX U l0 lo w v b)(hl:b.length≤1000000)(hlo:l0≤lo):Bq l0 w v b:=
 Ao.map (B1.list (ok:=EX lo) h hl λ_g hg _=>(B1.lt h hg).1) (λ_ h=>Acr hlo h) λ_ _ _ _ h=>let ⟨rv,e,hn,hr⟩:=h.now;⟨rv,e,hn,hr⟩
theorem FX.snoc{U:List Nat}{l0 lo:Nat}{w w1 w':World}{v v':Value}{b:Ag}{s:Af}{cs:List Value}{css:List (List Value)}(g1:css.length=b.length)(g2:∀cs∈css,cs.length=3)(g4:∀(i:Nat) x ds,b[i]?=some x→css[i]?=some ds→Dx (U++Ac v) w λw'=>Nc l0 w' ds x)(x:Ae w w1)(hlen:cs.length=3)
  (hc:Dx (U++Ac v) w1 λw'=>Nc l0 w' cs s) (hch:Chg (Ac v) w1 w') (hv:∀j,j∈Ac v'→j∈Ac v∨w1.heap.size≤j) (hO:E.A3 w' lo 41 3 v' (b.length+1) (css.flatten++cs)):FX U l0 lo w' v' (b++[s]):=by
 have a0:Chg (U++Ac v) w1 w':=hch.mono λb hb _=>Acz _ hb;have a1:∀j,j∈U++Ac v'→j∈U++Ac v∨w1.heap.size≤j:=λj hj=>by
  rcases AbB.1 hj with hj | hj
  ·exact .inl (Ac4 _ hj)
  ·rcases hv j hj with h | h
   ·exact .inl (Acz _ h)
   ·exact .inr h
 exact B1.snoc g1 g2 hO hlen (λi y ds hi hd=>((g4 i y ds hi hd).ext x).step a0 a1) (hc.step a0 a1)
theorem Vp{w:World}{p:Option Addr}{c i j:Nat}{zs:List Int}(h:QM .u8 w (.slice p zs.length c) zs)(hc:zs.length≤c)(hi:i≤j)(hj:j≤zs.length):QM .u8 w (.slice (if c=i then p else p.map (·.add (i*1))) ((zs.drop i).take (j - i)).length (c - i)) ((zs.drop i).take (j - i)):=by
 have hl:((zs.drop i).take (j - i)).length=j - i:=Ae0
 obtain⟨h0,⟨e,e2⟩ | ⟨a,cap,e,h⟩⟩:=h
 ·obtain⟨rfl,e3,rfl⟩:=Acd e;refine⟨by omega,.inl ⟨?_,by rw[e2];simp⟩⟩;rw[hl,show j - i=0 by omega];simp
 ·obtain⟨rfl,-,rfl⟩:=Acd e;by_cases e4:c=i
  ·refine⟨by omega,.inr ⟨a,c - i,by rw[if_pos e4],λk z hz=>?_⟩⟩;have:=(Aav.1 hz).1;omega
  ·refine⟨by omega,.inr ⟨a.add (i*1),c - i,by rw[if_neg e4];rfl,λk z hz=>?_⟩⟩;rw[Adi] at hz
   split at hz
   ·rw[AcH] at hz;have:=h (i+k) z hz;rw[XC,show i*1+k=i+k by omega];exact this
   ·cases hz
theorem Nw{t i n:Nat}(hi:i<n)(ht:t≤60)(hn:n≤8):∃q r:Nat,(t:Int)*(i:Int) / (n:Int)=q∧(t:Int)*((i:Int)+1) / (n:Int)=r∧q≤r∧r≤t∧0≤(t:Int)*(i:Int)∧(t:Int)*(i:Int)≤480∧0≤(t:Int)*((i:Int)+1)∧(t:Int)*((i:Int)+1)≤480:=by
 have e1:(t:Int)*(i:Int)=((t*i:Nat):Int):=Ae7
 have e2:(t:Int)*((i:Int)+1)=((t*(i+1):Nat):Int):=Ae7
 have h1:t*i≤60*8:=Aed ht Aez;have h2:t*(i+1)≤60*8:=Aed ht Aez;rw[e1,e2];refine⟨t*i / n,t*(i+1) / n,by simp,by simp,Nat.div_le_div_right (Nat.mul_le_mul_left _ Aez),Nat.div_le_of_le_mul ?_,by omega,by omega,by omega,by omega⟩;rw[Nat.mul_comm];exact AdF _ Aez
theorem Zb{α:Type}{l:List α}{i:Nat}:(l.take i).Sublist (l.take (i+1)):=by
 rw[Aco];exact Aek _ _
set_option maxRecDepth 8000 in
set_option maxHeartbeats 16000000 in
theorem OO:Nf:=by
 intro N b bv tv ts w hN bo h hb hW ht bp;obtain⟨p,c,rfl⟩:=Ao.slice h;obtain⟨tp,tc,rfl⟩:=ht.1.slice;have bq:=ht.2.2 _ _ _ rfl;have ct:=(AP.1 hb).1;refine AQ func38 ntmps38 ?_;apply CW.seq;apply CW.region;refine Sl ?_;refine Dq λA w1 cu b9 hA=>?_;replace hA:Blk w1 A [.slice p b.length c] 29:=hA;refine Sa ?_;refine BX λR w2 cw am hR=>?_;have cx:=hR.lt;refine Sw ?_;refine BX λC w3 cy aj hC=>?_;have cz:=hC.lt;have d0:=b9.size;have d1:=am.size;have d2:=aj.size;have aa:=(b9.trans am).trans aj;replace hA:=(hA.ext am).ext aj;replace hR:=hR.ext aj;have br:FX [R,C] w.heap.size w3.heap.size w3 (.slice none 0 0) []:=B1.nil;refine Sw ?_;refine CW.loop (ι:=Nat×Value) (λx w'=>x.1≤b.length∧Chg [C] w3 w'∧Blk w' C [x.2] 29∧∃c',FX [R,C] w.heap.size w3.heap.size w' x.2 c'∧(Bp c').Sublist ((Bp b).take x.1)∧∀s∈c',AJ s=true) (λx=>[(1,.slice tp ts.length tc),(2,.pointer (some ⟨A,0,none⟩)),(4,.pointer (some ⟨R,0,none⟩)),(5,.pointer (some ⟨C,0,none⟩)),(6,.int .i64 (x.1:Int))]) (λx=>b.length - x.1) (0,.slice none 0 0) ⟨Ac8 _,Chg.refl _ _,hC,[],br,by simp[Bp],by simp⟩ Cu ?_;rintro⟨i,cv⟩ w4 ⟨hi,a3,a4,c',ab,a7,a8⟩;dsimp only at hi a4 ab a7;show CW _ _ _ _ _ [(1,.slice tp ts.length tc),(2,.pointer (some ⟨A,0,none⟩)),(4,.pointer (some ⟨R,0,none⟩)),(5,.pointer (some ⟨C,0,none⟩)),(6,.int .i64 (i:Int))] _;have d4:=hA.chg a3 Ae0;have d5:=hR.chg a3 Ae0;have a1:Ae w w4:=aa.step a3 Ae0;have bs:=a3.size;have d6:c'.length≤i:=by
  have:=a7.length_le;simp[Bp] at this;omega
 have ac:=ab;obtain⟨cp,cc,rfl⟩:=B1.slice ab;refine Sw ?_;refine Av (λh1=>?_) λh1=>?_;rotate_left
 ·have h1:i=b.length:=by simp at h1;omega
  have ak:F1 N c':=by
   rw[h1,show(Bp b).take b.length=Bp b by rw[AcC (by simp[Bp])]] at a7;exact a7.trans hW
  repeat (first | apply CW.exit | apply QW.then_exit | apply QW.blk_exit)
  apply QW.then_n;refine CW.seq_cut (ι:=Value) (λu w'=>Chg [C] w3 w'∧Blk w' C [u] 29∧∃c2,FX [R,C] w.heap.size w3.heap.size w' u c2∧F1 N c2∧∀s∈c2,AJ s=true) (λ_=>[(4,.pointer (some ⟨R,0,none⟩)),(5,.pointer (some ⟨C,0,none⟩))]) ?_ ?_;rotate_left
  ·rintro u w5 ⟨ba,d7,c2,an,ao,bt⟩;have d8:=hR.chg ba Ae0;have e5:=B1.slice an;obtain⟨up,uc,rfl⟩:=e5;have ap:Ae w w5:=aa.step ba Ae0;have d9:c2.length≤4:=by
    have:=ao.length_le;simp[Bp] at this;omega
   have bu:R∉Ac (Value.slice up c2.length uc):=λhm=>by have:=(B1.lt an hm).1;omega
   refine Sw ?_;refine AR λw6 bb bw=>?_;have bx:=an.chg bb Ae7 (by simpa using bu);refine Sw ?_;exact QW.body_c rfl rfl bw rfl rfl rfl ⟨_,c2,rfl,bx.list Aez Aez,UU hN bo ao bt,ao,ap.step bb Ae0⟩
  have al:=a3;refine Sw ?_;refine B6 (λh2=>?_) λh2=>?_;rotate_left
  ·refine Sw ?_;exact QW.head (.slice cp c'.length cc) ⟨al,a4,c',ac,ak,a8⟩ EH
  have h2:2<ts.length:=by simp at h2;omega
  obtain⟨z,hz⟩:∃z,ts[0]?=some z:=⟨_,Aak Aez⟩;obtain⟨ta,rfl,bz⟩:=(ht.1.ext a1).at hz;have c0:=ht.2.1 z (Aa9 hz);refine Sw ?_;refine B6 (λh3=>?_) λh3=>?_;rotate_left
  ·refine Sw ?_;exact QW.head (.slice cp c'.length cc) ⟨al,a4,c',ac,ak,a8⟩ EH
  refine Sw ?_;refine Ax rfl rfl (LO c' _ _ w4 (Ak.of (ac.list Aez Aez))) ?_;rintro v w5 ⟨rfl,a9⟩
  cases hZ:IW c' Mq with
  | some k=>
   rw[show Qq (some k)=(k:Int) from rfl];refine Sw ?_
   exact QW.head (.slice cp c'.length cc) ⟨al.ext a9,a4.ext a9,c',ac.ext a9,ak,a8⟩ EH
  | none=>
  rw[show Qq none=(-1:Int) from rfl];refine Sw ?_;refine Cx λD1 wa c1 aq bc=>?_;refine Sw ?_;refine Cx λD2 wb c3 ad bd=>?_;refine Sw ?_;refine Cx λD3 wc c4 a5 c5=>?_;have da:=aq.size;have db:=ad.size;have dc:=a5.size;have c6:=a9.size;have c7:=bc.lt;have c8:=bd.lt;have ae:=(aq.trans ad).trans a5;have af:EK wc (.slice (some ⟨D3,0,none⟩) 2 2) OC.rows:=AO.of (Ch.rows (lo:=0) (lo':=D3) (B:=R) (xs:=[.slice (some ⟨D1,0,none⟩) 1 1,.slice (some ⟨D2,0,none⟩) 1 1]) (l:=OC.rows)
   (Ch.app (Ch.one (LY (l:=[[61,65,33,65,49,43,49]]) ((bc.ext ad).ext a5) Ae2 Ae2 Aez Aez)) (Ch.one (LY (l:=[[53]]) (bd.ext a5) Ae2 Ae2 Aez Aez)))
   ⟨rfl,.inr ⟨D3,2,[],rfl,c5,by decide,rfl,Ab9 _⟩⟩ Ae2 Aez Aez)
  have c9:=R7 ht.1 (j:=2) Aez;have ar:(ts.take 2).length=2:=by rw[Ac3];omega
  have hT:=Ki OC (.slice (some ⟨D3,0,none⟩) 2 2) (some ta) tc (ts.take 2) wc af UM (c9.ext (((a1.trans a9).trans ae))) (λz hz=>ht.2.1 z (Ac5 hz)) Aez;rw[ar] at hT;refine Sw ?_;refine LW.slice_hi (j:=2) rfl rfl rfl rfl rfl Aez rfl ?_;refine Ax rfl rfl hT ?_;rintro v wd ⟨u,s2,rfl,be,ca,bf,bg⟩;have e6:=Ao.slice bf;obtain⟨up,uc,rfl⟩:=e6;refine Sw ?_;refine BX λX we dd bh hX=>?_;refine Sw ?_;refine AR λwf cb hX=>?_;replace hX:Blk wf X (Ap s2 (.slice up s2.rows.length uc)) 41:=hX;have de:=bg.size;have df:=bh.size;have ag:Ae wd wf:=bh.step cb Ae0;have ah:Ae w4 wf:=((a9.trans ae).trans bg).trans ag;have cd:=a4.ext ah;refine Sw ?_;refine Cx λD4 wg ce au av=>?_;replace av:Blk wg D4 (Ap s2 (.slice up s2.rows.length uc)) 41:=av;have a2:=ah.trans au;obtain⟨css,g1,g2,g3,g4⟩:=ab;refine Sw ?_;refine LW.append (lo:=w3.heap.size) (k:=c'.length) rfl rfl rfl rfl rfl rfl (g3.ext a2) (by have:=a2.size;omega) av rfl rfl rfl (by show(c'.length+1)*49≤_;omega) rfl ?_;intro v10 wh aw ax cf;have cg:s2.name.length≤12:=(EW (Cr.1 be).1).2.1;have a0:∀x∈Ac (Value.slice cp c'.length cc),w3.heap.size≤x∧x<w4.heap.size:=λx hx=>g3.lt hx;have ay:Dx ([R,C]++Ac (Value.slice cp c'.length cc)) wg λw'=>Nc w.heap.size w' (Ap s2 (.slice up s2.rows.length uc)) s2:=λw' x=>⟨_,rfl,by omega,newR.low (newR.old (AO.ext (AO.ext bf ag) au) x (λy hy=>by
   simp only[AbB,Acf,Acn,or_false] at hy;rcases hy with (rfl | rfl) | hy
   ·omega
   ·omega
   ·have:=(a0 y hy).2;omega)) Aez⟩
  have az:=FX.snoc g1 g2 g4 a2 rfl ay aw cf ax;have b0:Chg [C] w3 wh:=(al.ext a2).more aw (λx hx=>(a0 x hx).1);have dg:=cd.ext au |>.chg aw (λhm=>by have:=(a0 C hm).1;omega);have b1:C∉Ac v10:=λhm=>by have:=(ax.lt hm).1;omega
  have e3:=ax.slice;obtain⟨vp,vc,rfl⟩:=e3;refine Sw ?_;refine BO λwi bi ci=>?_;refine Sw ?_;refine QW.head (.slice vp (c'.length+1) vc) ⟨b0.same bi,ci,c'++[s2],az.chg bi Ae7 (by simpa using b1),T4 ak (Nk hZ) ca,λt ht=>?_⟩ EH;rcases AbB.1 ht with ht | ht
  ·exact a8 t ht
  ·simp only[Aaw] at ht;rw[ht];exact be
 have h1:i<b.length:=by simp at h1;omega
 obtain⟨s,hs⟩:∃s,b[i]?=some s:=⟨_,Aak h1⟩;obtain⟨pa,sq,sk,rfl,-,-,cj,b2⟩:=Ak.at (Ak.ext h a1) hs;obtain⟨q,r,hq,hr,bj,ck,dh,di,dj,dk⟩:=Nw h1 bp Aez;have bk:(b.length:Int)≠0:=Aez
 refine Sw ?_;rw[hq,hr];refine LW.val rfl rfl rfl (Y.slice_mid (i:=q) (j:=r) rfl rfl rfl rfl rfl rfl bj Aez) ?_;generalize b3:(if tc=q then tp else Option.map _ tp)=sp;replace b3:(if tc=q then tp else tp.map (·.add (q*1)))=sp:=b3;have a6:=Vp ht.1 bq bj ck;obtain⟨us,b4⟩:∃us,us=(ts.drop q).take (r - q):=⟨_,rfl⟩;have cl:us.length=r - q:=by rw[b4];simp;omega
 rw[←b4,b3] at a6;have ai:∀z∈us,0≤z∧z≤255:=λz hz=>ht.2.1 z (by rw[b4] at hz;exact AcM (Ac5 hz));have cm:=(AP.1 hb).2.1 s (Aa9 hs);refine Sl ?_;apply LW.nil;apply QW.then_n;refine CW.seq_cut (ι:=Unit) (λ_ w'=>w4=w') (λ_=>[(1,.slice tp ts.length tc),(2,.pointer (some ⟨A,0,none⟩)),(4,.pointer (some ⟨R,0,none⟩)),(5,.pointer (some ⟨C,0,none⟩)),(6,.int .i64 (i:Int)),(8,.slice sp (r - q) (tc - q))]) ?_ ?_
 ·refine Sw ?_;refine B6 (λh2=>?_) λh2=>?_;rotate_left
  ·refine Sw ?_;exact QW.head () rfl DL
  have h2:0<us.length:=by simp at h2;omega
  obtain⟨z,hz⟩:∃z,us[0]?=some z:=⟨_,Aak h2⟩;obtain⟨ta,rfl,bz⟩:=(a6.ext a1).at hz;have c0:=ai z (Aa9 hz);refine Sw ?_;refine Av (λh3=>?_) λh3=>?_
  ·refine Sw ?_;exact QW.again (i+1,_) ⟨by show i+1≤_;omega,a3,a4,c',ac,a7.trans Zb,a8⟩ Cu AeP
  refine Sw ?_;exact QW.head () rfl DL
 rintro _ _ rfl;have hT:∀w1,Ae w4 w1→_:=λw1 x1=>Ki s (.slice sq s.rows.length sk) sp (tc - q) us w1 ((AO.of cj).ext x1) cm ((a6.ext a1).ext x1) ai Aez;rw[cl] at hT;obtain⟨css,g1,g2,g3,g4⟩:=ab;refine Sw ?_;refine CW.drawG (Ae w4) 10 (λw' h=>h) Ae1 λwa aq=>?_;refine BD ?_;refine DR 8 λhS=>?_;refine Ax rfl rfl (hT wa hS) ?_;rintro v wb ⟨u,s',rfl,bl,cn,bm,ad⟩;have e2:=Ao.slice bm;obtain⟨up,uc,rfl⟩:=e2;have co:=hS.trans ad;have dl:=hS.size;clear hS;apply LW.nil;refine QW.headed co ?_;refine BD ?_;refine DR 9 λhS=>?_;refine Cx λD wc dm a5 hD=>?_;replace hD:Blk wc D (Ap s' (.slice up s'.rows.length uc)) 41:=hD;have cq:=hS.trans a5;clear hS;apply LW.nil;refine QW.headed cq ?_;refine BD ?_;refine GW.tail rfl Ae1 (λhS=>?_);refine LW.append (lo:=w3.heap.size) (k:=c'.length) rfl rfl rfl rfl rfl rfl (g3.ext hS) (by have:=hS.size;omega) hD rfl rfl rfl (by show(c'.length+1)*49≤_;omega) rfl ?_;intro v10 wd b5 b6 cr;have cg:s'.name.length≤12:=(EW (Cr.1 bl).1).2.1;have a0:∀x∈Ac (Value.slice cp c'.length cc),w3.heap.size≤x∧x<w4.heap.size:=λx hx=>g3.lt hx;have ay:Dx ([R,C]++Ac (Value.slice cp c'.length cc)) wc λw'=>Nc w.heap.size w' (Ap s' (.slice up s'.rows.length uc)) s':=λw' x=>⟨_,rfl,by omega,newR.low (newR.old (AO.ext bm a5) x (λy hy=>by
  simp only[AbB,Acf,Acn,or_false] at hy;rcases hy with (rfl | rfl) | hy
  ·omega
  ·omega
  ·have:=(a0 y hy).2;omega)) Aez⟩
 have b7:=FX.snoc g1 g2 g4 hS rfl ay b5 cr b6;have b8:Chg [C] w3 wd:=(a3.ext hS).more b5 (λx hx=>(a0 x hx).1);have dn:=(a4.ext hS).chg b5 (λhm=>by have:=(a0 C hm).1;omega);have b1:C∉Ac v10:=λhm=>by have:=(b6.lt hm).1;omega
 have e3:=b6.slice;obtain⟨vp,vc,rfl⟩:=e3;refine Sw ?_;refine BO λwe bn cs=>?_;refine Sw ?_;refine QW.again (i+1,.slice vp (c'.length+1) vc) ⟨by show i+1≤_;omega,b8.same bn,cs,c'++[s'],b7.chg bn Ae7 (by simpa using b1),?_,?_⟩ Cu AeP
 ·have e4:(Bp b).take (i+1)=(Bp b).take i++[s.name]:=by
   rw[Aco,Bp,AbA,hs];rfl
  show(Bp (c'++[s'])).Sublist ((Bp b).take (i+1));rw[e4,Bp,Ac1,List.map_singleton,cn];exact a7.append (List.Sublist.refl _)
 ·intro t ht;rcases AbB.1 ht with ht | ht
  ·exact a8 t ht
  ·simp only[Aaw] at ht;rw[ht];exact bl
theorem YD{w:World}{a:Addr}{v:Value}(h:w.cell? a=some v):∀(j:Nat) (u:Value),[v][j]?=some u→w.cell? (a.add j)=some u
 | 0,u,hj=>by
  obtain rfl:=Aa5 hj;rw[IV]
  exact h
 | j+1,_,hj=>by simp at hj
set_option maxRecDepth 8000 in
set_option maxHeartbeats 8000000 in
theorem VV(hT:Nf):QS:=by
 intro ds ks ts dv kv tv sh w g hd hk ht hn cn bn;obtain⟨pd,cd,rfl⟩:=hd.1.slice;obtain⟨pk,ck,rfl⟩:=hk.1.slice;obtain⟨pt,ct,rfl⟩:=ht.1.slice;have co:=hd.2.2 _ _ _ rfl;have bo:=ht.2.2 _ _ _ rfl;have cp:=hd.1.1;obtain⟨j,hj,cq⟩:∃q:Nat,Min.min (ds.length:Int) 16=q∧q=min ds.length 16:=⟨min ds.length 16,by omega,rfl⟩;have b2:(ds.take j).length=j:=by rw[Ac3];omega
 have a6:=VP (ds.take j) pd cd w (R7 hd.1 Aez) Aez (λz hz=>hd.2.1 z (Ac5 hz));rw[b2] at a6;obtain⟨n,b3⟩:∃n,n=j / 2:=⟨_,rfl⟩;rw[←b3] at a6;obtain⟨ms,b4⟩:∃ms,ms=ds.take j:=⟨_,rfl⟩;rw[←b4] at a6;have bq:n≤8:=Aez
 refine AQ func15 ntmps15 ?_;refine Sw ?_;refine LW.min rfl rfl hj rfl ?_;refine Sw ?_;refine LW.slice_hi (j:=j) rfl rfl rfl rfl rfl Aez rfl ?_;refine Sw ?_;refine Ax rfl rfl a6 ?_;rintro v w1 ⟨ac,b5⟩;obtain⟨p1,c1,rfl⟩:=ac.slice;rw[Do] at ac ⊢;refine Sw ?_;refine CW.loop (ι:=Nat) (λi w'=>i≤n∧Ae w w'∧∃l,l.map Ek=(EN ms n).map Ek∧C4 [] w.heap.size w' (.slice p1 n c1) l∧∀j c,j<i→l[j]?=some c→F1 (HO sh) c.book) (λi=>[(1,.slice pk ks.length ck),(2,.int .u8 (sh:Int)),(3,.slice pt ts.length ct),(9,.slice p1 n c1),(10,.int .i64 (i:Int))]) (λi=>n - i) 0 ⟨Ac8 _,b5,_,rfl,ac,by omega⟩ Cu ?_;rintro i w2 ⟨hi,ad,l,a7,ae,b6⟩;have br:l.length=n:=by rw[Yy a7,Do]
 refine Sw ?_;refine Av (λh1=>?_) λh1=>?_;rotate_left
 ·refine Sw ?_;exact QW.body1 rfl rfl ⟨l,ae,RS (LK ms n Aez) a7,by omega,Wy a7,ad⟩
 have h1:i<n:=by simp at h1;omega
 refine Sw ?_;refine Ax rfl rfl (X6 ks _ sh w2 (hk.1.ext ad) hk.2.1 Aez hn) ?_;rintro v w3 ⟨u,rv,f,lo,rfl,bs,ai,aj⟩;obtain⟨css,g1,g2,g3,g4⟩:=ae.ext aj;have b7:=λb hb=>(ae.lt (v:=.slice p1 n c1) (b:=b) hb).2;obtain⟨ak,⟨e5,h0⟩ | ⟨gg,cap,sp,e5,hG,b8,a8,a9⟩⟩:=g3
 ·omega
 obtain⟨rfl,-,rfl⟩:=Acd e5;obtain⟨x,b9⟩:∃x,l[i]?=some x:=⟨_,Aak Aez⟩;obtain⟨xs,ba⟩:∃x,css[i]?=some x:=⟨_,Aak Aez⟩;obtain⟨bp,bc,rfl⟩:=ai.own.slice;refine Sw ?_;refine LW.store_agg (i:=i*4+2) (by show some (Value.pointer (some (Addr.add (Addr.add ⟨gg,0,none⟩ (((i:Nat):Int).toNat*4)) 2)))=_;rw[An,An,show 0+((i:Nat):Int).toNat*4+2=i*4+2 by omega]) rfl rfl hG (by show i*4+2+1≤_;rw[Aax,ak];omega) rfl rfl λw4 al am=>?_;rw[show[Value.slice bp (Dr ks sh).length bc].length=1 from rfl,VG (by rw[Aax,ak];omega)] at am;have bt:gg<w2.heap.size:=b7 gg AeM;have hb:Dx [gg] w3 λw'=>B5 w' (.slice bp (Dr ks sh).length bc) (Dr ks sh):=λw' x=>Ak.of (Ak.chg ai.fresh x (λa h=>by have:lo≤a.block:=h;simp;omega) (λ_ a _ h=>by have:lo≤a.block:=h;simp;omega) (λ_ _ _ _ a _ _ _ h=>by have:lo≤a.block:=h;simp;omega));subst br;have af:=C4.book (lo:=w.heap.size) g1 g2 g4 b8 a8 a9 b9 ba al am hb (Wg hk.2.1 hn);have a3:(l.set i {x with book:=Dr ks sh}).map Ek=(EN ms l.length).map Ek:=(RU b9).trans a7;obtain⟨l4,ag⟩:∃y,y=l.set i {x with book:=Dr ks sh}:=⟨_,rfl⟩;have a5:l4.length=l.length:=by rw[ag,Ado]
 have a0:l4[i]?=some {x with book:=Dr ks sh}:=by rw[ag,AbS,if_pos rfl,if_pos h1]
 rw[←ag] at af a3;have an:∀j c,j<i+1→l4[j]?=some c→F1 (HO sh) c.book:=λj c hj hc=>by
  by_cases e:j=i
  ·subst e;rw[a0] at hc;obtain rfl:=Aa5 hc;exact Zn _ _
  ·rw[ag,AbS,if_neg (λh=>e h.symm)] at hc;exact b6 j c Aez hc
 have ao:Dk w4 (.slice (some ⟨gg,0,none⟩) l4.length c1) l4:=by rw[a5];exact af.list Aez
 obtain⟨a4,pq,pn,bp4,bc4,e4,aa,bu,-,bv,a1⟩:=Dk.at ao a0;obtain rfl:=Aa5 e4;have cr:=a1 1 _ rfl;have ap:Ae w w4:=(ad.trans aj).step al Ae0;refine Sw ?_;refine Av (λh5=>?_) λh5=>?_;rotate_left
 ·refine Sw ?_;exact QW.again (i+1) ⟨h1,ap,l4,a3,af,an⟩ Cu Aez
 have bb:0<l.length:=Aez
 obtain⟨q,r,hq,hr,bd,bw,bx,bz,be,bf⟩:=Nw h1 bn bq;have c0:(l.length:Int)≠0:=Aez
 refine Sw ?_;rw[hq];obtain⟨pp,ps,aq⟩:∃s r,x.parents=s::r:=by
  cases e:x.parents with
  | nil=>simp[e] at h5
  | cons p r=>exact⟨p,r,rfl⟩
 obtain⟨pa,rfl,-,bg⟩:=Eb.at aa (i:=0) (s:=pp) (by show x.parents[0]?=_;rw[aq];rfl);have c2:w4.cell? (pa.add 0)=some (Am pp):=bg;have cu:0<({x with book:=Dr ks sh}:A9).parents.length:=by show 0<x.parents.length;rw[aq];simp
 obtain⟨kp,c3,c4⟩:=Em (RS (LK ms l.length Aez) a3) a0 (p:=pp) (by show pp∈x.parents;rw[aq];simp);have c5:Dw w4 (.slice (some ⟨gg,0,none⟩) l.length c1) l4:=by rw[←a5];exact ao.past
 obtain⟨y,hy⟩:∃y,l4[kp]?=some y:=⟨_,Aak Aez⟩;obtain⟨ay,pqy,pny,bpy,bcy,ey,-,ar,-,au,a2⟩:=Dk.at ao hy;obtain rfl:=Aa5 ey;have c6:=a2 2 _ rfl;have c7:=an kp y Aez hy;have ab:=Vp ht.1 bo bd bw;obtain⟨us,av⟩:∃us,us=(ts.drop q).take (r - q):=⟨_,rfl⟩;have c8:us.length=r - q:=by rw[av];simp;omega
 rw[←av] at ab;have aw:∀z∈us,0≤z∧z≤255:=λz hz=>ht.2.1 z (by rw[av] at hz;exact AcM (Ac5 hz));have ax:=ap;have bh:∀w1,Ae w4 w1→_:=λw1 x1=>hT (HO sh) y.book (.slice bpy y.book.length bcy) (.slice (if ct=q then pt else pt.map (·.add (q*1))) us.length (ct - q)) us w1 (So sh hn) (U0 sh) (Ak.ext ar x1) au c7 ⟨(ab.ext (ap.trans x1)),aw,λ_ _ _ e=>by obtain⟨-,rfl,rfl⟩:=Acd e;omega⟩ Aez;rw[c8] at bh;have c9:∀w1,Dw w1 (.slice (some ⟨gg,0,none⟩) l.length c1) l4→AF prog 18 [.slice (some ⟨gg,0,none⟩) l.length c1,Am pp] w1 (λv w'=>v=.int .i64 (kp:Int)∧Ae w1 w'):=λw1 h1=>by
  have h:=AaD l4 _ pp w1 h1;rw[c3] at h;exact h
 have ah:Unit→0≤(ts.length:Int)*((i:Int)+1)∧(ts.length:Int)*((i:Int)+1)≤480:=λ_=>⟨be,bf⟩;clear be bf;clear a6 ac ae hG am ai hb g1 g2 g4 b7 ba al ad aj bg e4 ey a2 e5 hq ak a8 b8 h5 a7 hi b6 a1 b3 b2 bt bs a9 b5 b4 bx bz;refine CW.drawG (Ae w4) 28 (λw' h=>h) Ae1 λwa cv=>?_;refine BD ?_;refine GW.take 21 rfl rfl rfl rfl (λw _=>Y.mul (p:=(ts.length:Int)) (q:=(i:Int)+1) rfl rfl (by have:=ah ();omega) (by have:=ah ();omega)) rfl rfl Ae1 Ae1 Ae1 (λ_ _ _ h=>h) ?_;refine Gkp 22 ?_;refine Gkp 23 ?_;refine GW.take 24 (v:=.int .i64 (r:Int)) rfl rfl rfl rfl (λw _=>by rw[←hr];exact Y.quo (p:=(ts.length:Int)*((i:Int)+1)) (q:=(l.length:Int)) rfl rfl (ah ()).1 (by have:=ah ();omega) Aez) rfl rfl Ae1 Ae1 Ae1 (λ_ _ _ h=>h) ?_;refine GW.take 25 rfl rfl rfl rfl (λw _=>Y.slice_mid (i:=q) (j:=r) rfl rfl rfl rfl rfl rfl bd Aez) rfl rfl Ae1 Ae1 Ae1 (λ_ _ _ h=>h) ?_;refine DR 11 λhS=>?_;refine Ax rfl rfl (c9 _ (c5.ext hS)) ?_;rintro v w5 ⟨rfl,ca⟩;have cb:=hS.trans ca;clear hS;apply LW.nil;refine QW.headed cb ?_;refine BD ?_;refine GW.take 14 rfl rfl rfl rfl (λw hw=>Y.load_cells (cs:=[.slice bpy y.book.length bcy]) rfl (YD (A2 hw c6)) rfl rfl rfl) rfl rfl Ae1 Ae1 Ae1 (λ_ _ _ h=>h) ?_;refine BD ?_;refine DR 26 λhS=>?_;refine Ax rfl rfl (bh _ hS) ?_;rintro v w6 ⟨u,b',rfl,bi,cc,ce,cf⟩;have e6:=Ao.slice bi;obtain⟨up,uc,rfl⟩:=e6;have cw:=hS.size;have cg:=hS.trans cf;clear hS;apply LW.nil;refine QW.headed cg ?_;refine BD ?_;refine GW.tail rfl Ae1 (λhS=>?_);obtain⟨css4,k1,k2,k3,k4⟩:=af;obtain⟨bj,⟨e7,cx⟩ | ⟨gg',cap7,sp7,e7,bk,ci,az,b0⟩⟩:=k3
 ·omega
 obtain⟨e8,-,rfl⟩:=Acd e7;obtain rfl:gg=gg':=by have:=Aa5 e8;exact(Addr.mk.inj this).1
 obtain⟨xs4,b1⟩:∃x,css4[i]?=some x:=⟨_,Aak Aez⟩;refine Sw ?_;refine LW.store_agg (i:=i*4+2) (by show some (Value.pointer (some (Addr.add (Addr.add ⟨gg,0,none⟩ (((i:Nat):Int).toNat*4)) 2)))=_;rw[An,An,show 0+((i:Nat):Int).toNat*4+2=i*4+2 by omega]) rfl rfl (bk.ext hS) (by show i*4+2+1≤_;rw[Aax,bj];omega) rfl rfl λw7 bl bm=>?_;rw[show[Value.slice up b'.length uc].length=1 from rfl,VG (by rw[Aax,bj];omega)] at bm;have cj:gg<w4.heap.size:=bk.lt;have cl:Dx [gg] w6 λw'=>B5 w' (.slice up b'.length uc) b':=λw' x=>Ak.of (Bq.old bi x (λy hy=>by simp only[Aaw] at hy;omega));have cm:=C4.book (lo:=w.heap.size) k1 k2 (λi x ds h1 h2=>(k4 i x ds h1 h2).ext hS) ci az b0 a0 b1 bl bm cl cc;refine Sw ?_;refine QW.again (i+1) ⟨h1,ax.trans hS |>.step bl Ae0,_,(RU a0).trans a3,by rw[←a5];exact cm,λj c hj hc=>?_⟩ Cu Aez;by_cases e:i=j
 ·subst e;rw[AbS,if_pos rfl,if_pos Aez] at hc;obtain rfl:=Aa5 hc;exact ce
 ·rw[AbS,if_neg e] at hc;exact an j c hj hc
end Go.Proofs.YtefaigjfkddelaaGreatDoor
