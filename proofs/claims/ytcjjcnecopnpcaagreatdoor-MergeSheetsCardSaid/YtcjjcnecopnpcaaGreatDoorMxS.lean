/-
  Joined by program out of the texts Mge9 MrgK MrgL.
-/
import Derived.Test.YtcjjcnecopnpcaaGreatDoorMxR
import Derived.Test.YtcjjcnecopnpcaaGreatDoorMxQ
import Derived.Test.YtcjjcnecopnpcaaGreatDoorMxK
import Derived.Test.YtcjjcnecopnpcaaGreatDoorMxM
namespace Go.Proofs.YtcjjcnecopnpcaaGreatDoor
open Tryz
open Go Go.E
def Bn(bk:Fin 3→An)(nm:List UInt8):A1:=A4 nm (Bh (bk 0) nm) (Bh (bk 1) nm) (Bh (bk 2) nm)
def Cd(bk:Fin 3→An)(ns:List (List UInt8)):Fin 3→List Bg:=λi=>ns.flatMap λnm=>if (Bh (bk i) nm).isSome=true then[FJ (Bn bk nm) i] else[]
def NS(bk:Fin 3→An)(ns:List (List UInt8)):List A1:=ns.flatMap λnm=>H4 (Bn bk nm)
section
variable {bk:Fin 3→An}
theorem SZ(ns:List (List UInt8))(nm:List UInt8):Cd bk (ns++[nm])=O6 bk (Cd bk ns) nm (Bn bk nm):=by
 funext i
 simp[Cd,O6]
theorem XT(ns:List (List UInt8))(nm:List UInt8):NS bk (ns++[nm])=NS bk ns++H4 (Bn bk nm):=by simp[NS]
theorem GO{α β:Type}{f:α→List β}(h:∀a,(f a).length≤1):∀l:List α,(l.flatMap f).length≤l.length
 | []=>by simp
 | a::l=>by
  have:=GO h l;have:=h a;rw[Ab6,Aaq,AaL];omega
theorem O3(ns:List (List UInt8))(i:Fin 3):(Cd bk ns i).length≤ns.length:=GO (λnm=>by split<;>simp) ns
theorem U7(ns:List (List UInt8)):(NS bk ns).length≤ns.length:=GO (λnm=>by unfold H4;split<;>simp) ns
end
theorem QK(x:List UInt8):∀l,(IU x l).length≤l.length+1
 | []=>by simp[IU]
 | y::r=>by
  have:=QK x r;rw[IU]
  split
  ·simp only[AaL];omega
  ·split<;>simp
theorem MQ:∀(l r:List (List UInt8)),(l.foldl (λr x=>IU x r) r).length≤l.length+r.length
 | [],r=>by simp
 | x::l,r=>by
  have:=MQ l (IU x r);have:=QK x r;rw[Ac6,AaL];omega
noncomputable def FK(bk:Fin 3→An)(ns:List (List UInt8))(nm:List UInt8):Fin 3→Nat→Nat→Option (List UInt8):=λi=>Jj (bk i) (Cd bk ns i) nm
noncomputable def BI(bk:Fin 3→An)(ns:List (List UInt8))(p:A1):Ae:=⟨p.name,p.cols,(List.range p.rows.toNat).map (Fk p (FK bk ns p.name) p.cols.toNat)⟩
noncomputable def Cy(bk:Fin 3→An)(ns:List (List UInt8))(p:A1):List El:=AE p++(List.range p.rows.toNat).flatMap (Bc p (FK bk ns p.name) p.cols.toNat)
def Ak(bk:Fin 3→An):List (List UInt8):=EV (bk 0) (bk 1) (bk 2)
def Io(p:A1):Bool:=decide (24<p.rows)||decide (12<p.cols)
def EU(ps:List A1):Bool:=ps.any Io||decide (5<ps.length)
noncomputable def GT(bk:Fin 3→An):GJ:=if ∀i,Av (bk i)=true then(if EU (NS bk (Ak bk))=true then⟨[],[],4⟩ else⟨(NS bk (Ak bk)).map (BI bk (Ak bk)),(NS bk (Ak bk)).flatMap (Cy bk (Ak bk)),0⟩) else⟨[],[],1⟩
def Z2(bk:Fin 3→An)(ns:List (List UInt8))(p:A1):Prop:=0≤p.rows∧0≤p.cols∧p.name.length≤1000000∧(∀i,∀s∈Cd bk ns i,s.May∧s.rows.new≤1000000∧s.cols.new≤1000000)∧∀i t s,Bh (bk i) p.name=some t→Ec (Cd bk ns i) p.name=some s→s.rows.to.length=t.rows.length∧s.cols.to.length=t.cols.toNat
theorem Tp{bk:Fin 3→An}(hm:∀i,Av (bk i)=true):(Ak bk).length≤15:=by
 have h:=λi=>(Bm.1 (hm i)).1;have h0:=h 0;have h1:=h 1;have h2:=h 2;have:=MQ ((bk 0).map Ae.name++(bk 1).map Ae.name++(bk 2).map Ae.name) [];simp only[Aaq,AbA,Abl] at this;show(HT _).length≤15;unfold HT;omega
theorem L9{bk:Fin 3→An}(hm:∀i,Av (bk i)=true):∀t∈Ak bk,t.length≤1000000:=λt ht=>by
 have key:∀i,t∈(bk i).map Ae.name→t.length≤1000000:=λi h=>by
  obtain⟨s,hs,rfl⟩:=AbE.1 h;have:=(FB (AZ.1 ((Bm.1 (hm i)).2.1 s hs)).1).2.1;omega
 rcases((FU (bk 0) (bk 1) (bk 2)).2 t).1 ht with h | h | h
 ·exact key 0 h
 ·exact key 1 h
 ·exact key 2 h
theorem Wy{b:An}(hb:Av b=true){ss:List Bg}(hss:∀s∈ss,s.May){nm:List UInt8}{r c:Nat}{x:List UInt8}(h:Jj b ss nm r c=some x):x.length≤1000000:=by
 unfold Jj at h
 split at h
 ·rename_i t s h1 h2
  split at h
  ·rename_i i j h3 h4;obtain rfl:=Abm h;obtain⟨-,-,-,-,a0⟩:=AZ.1 (B9 hb h1).1;have key:(t.rows.getD i []).getD j []=[]∨BN ((t.rows.getD i []).getD j [])=true:=by
    rw[AaF,AaF]
    cases e1:t.rows[i]? with
    | none=>exact .inl rfl
    | some row=>
     rw[Ac2]
     cases e2:row[j]? with
     | none=>exact .inl rfl
     | some y=>exact .inr ((a0 row (Abn e1)).2 y (Abn e2))
   rcases key with e | e
   ·rw[e,DH (.inl rfl)];simp
   ·have:=FA (MO (own:=nm) hss e);omega
  ·cases h
 ·cases h
theorem Og{bk:Fin 3→An}{ns:List (List UInt8)}{p:A1}(h:Io p=false):(Cy bk ns p).length≤300:=by
 simp only[Io,AcP,decide_eq_false_iff_not] at h;have e1:∀r c,(Cn p (FK bk ns p.name) r c).length≤1:=λr c=>by unfold Cn;split<;>simp
 have e2:∀r,(Bc p (FK bk ns p.name) p.cols.toNat r).length≤p.cols.toNat:=λr=>flat_len e1 _;have e3:=KC e2 p.rows.toNat;have e4:(AE p).length≤1:=by unfold AE;split<;>simp
 have:p.rows.toNat*p.cols.toNat≤24*12:=AcJ AdE AdE;unfold Cy;rw[Aaq];omega
theorem M4{α β:Type}{f:α→List β}{m:Nat}:∀{l:List α},(∀a∈l,(f a).length≤m)→(l.flatMap f).length≤l.length*m
 | [],_=>by simp
 | a::l,h=>by
  have:=M4 (l:=l) λb hb=>h b (Abj _ hb);have:=h a (Abo ..);rw[Ab6,Aaq,AaL,Acg];omega
theorem KF{α:Type}{m lo:Nat}{T:TypeId}{R:ED α}{w:World}{v:Value}{l:List α}(h:Aq m lo T R w v l){b:Nat}(hb:b∈Ac v){cs:List Value}{T':TypeId}(hB:Blk w b cs T'):T'=T:=by
 obtain⟨_,_,_,o,_⟩:=h;exact Own.type o hb hB
theorem V7{α:Type}{m lo:Nat}{T:TypeId}{R:ED α}{w:World}{v:Value}{l:List α}(h:Aq m lo T R w v l){b:Nat}(hb:b∈Ac v):∃cs,Blk w b cs T:=by
 obtain⟨_,_,_,⟨_,⟨e,_⟩ | ⟨g,cap,sp,e,hB,_⟩⟩,_⟩:=h
 ·rw[e] at hb;simp[Ac] at hb
 ·rw[e] at hb;simp[Ac] at hb;subst hb;exact⟨_,hB⟩
theorem T3{w:World}{lo:Nat}{v:Value}{l:List (List UInt8)}(h:E.Own w lo 9 1 v l.length (l.map Ao))(hl:l.length≤1000000)(ht:∀t∈l,t.length≤1000000):Ce w v l:=by
 obtain⟨_,⟨rfl,e⟩ | ⟨g,cap,sp,rfl,hB,_⟩⟩:=h
 ·exact⟨hl,.inl ⟨rfl,Abt e⟩⟩
 ·refine⟨hl,.inr ⟨⟨g,0,none⟩,cap,rfl,λ_=>trivial,λi x hi=>⟨[Ao x],rfl,⟨rfl,ht x (Abn hi)⟩,λj u hj=>?_⟩⟩⟩
  match j,hj with
  | 0,hj=>
   obtain rfl:=Abm hj;rw[Au,Au];refine hB.cell ?_;have a0:=(Abg.1 hi).1;rw[show 0+i*1+0=i by omega,Abk (by simpa using a0),Ab1,hi];rfl
def Uc(w:World)(cs:List Value)(s:Ae):Prop:=∃rv,cs=Am s rv∧s.name.length≤1000000∧BA w rv s.rows
theorem Vg{lo:Nat}{w:World}{v:Value}{l m:List El}{css dss:List (List Value)}(h1:css.length=l.length)(h2:∀cs∈css,cs.length=6)(h3:∀(i:Nat) x cs,l[i]?=some x→css[i]?=some cs→cs=Ci x)(k1:dss.length=m.length)(k2:∀cs∈dss,cs.length=6)(k3:∀(i:Nat) x cs,m[i]?=some x→dss[i]?=some cs→cs=Ci x)(hO:E.Own w lo 49 6 v (l.length+m.length) (css.flatten++dss.flatten)):EZ lo w v (l++m):=by
 refine⟨css++dss,by simp[h1,k1],λcs hc=>?_,by simpa using hO,λi x cs hx hc=>?_⟩
 ·rcases Abf.1 hc with hc | hc
  ·exact h2 cs hc
  ·exact k2 cs hc
 ·rcases AbI i l.length with hl | hl
  ·rw[Abk hl] at hx;rw[Abk AdE] at hc;exact h3 i x cs hx hc
  ·rw[Abx hl] at hx;rw[Abx AdE,h1] at hc;exact k3 _ x cs hx hc
theorem SG{m:List El}{dss:List (List Value)}(k1:dss.length=m.length)(k3:∀(i:Nat) x cs,m[i]?=some x→dss[i]?=some cs→cs=Ci x):∀u∈dss.flatten,u.oneCell'=true:=λu hu=>by
 obtain⟨cs,hc,hu⟩:=List.mem_flatten.1 hu;obtain⟨i,hi⟩:=Acl hc;have hil:=(Abg.1 hi).1;obtain⟨x,hx⟩:∃x,m[i]?=some x:=⟨_,Aap AdE⟩;rw[k3 i x cs hx hi] at hu;simp only[Ci,AaT,Abu,or_false] at hu;rcases hu with rfl | rfl | rfl | rfl | rfl | rfl<;>rfl
theorem Wf{V:List Nat}{lo:Nat}{w:World}{rv:Value}{s:Ae}(h:Qp V lo w rv s.rows)(hn:s.name.length≤1000000)(hl:s.rows.length≤1000000)(hv:∀b∈Ac rv,b∉V):ET V w λw'=>Uc w' (Am s rv) s:=λ_w' x=>
 ⟨rv,rfl,hn,Ab.map (Aq.list (ok:=HC) (SafO.step (U':=V) h x (λ_ h=>h) hv λ_ h=>.inl h) hl λ_ _ _=>trivial) (λ_ h=>h) λ_ _ _ _ h=>h.now⟩
def Zy(U:List Nat)(lo:Nat)(w:World)(v:Value)(b:An):Prop:=Aq 3 lo 46 (λ_ w cs s=>ET U w λw'=>Uc w' cs s) w v b
def IX(w:World)(v:Value)(l:List El):Prop:=Ab 6 HC (λ_ _ cs c=>cs=Ci c) w v l
theorem F2{P:Program}[Tab P]{n:Nat}{Ev:BW}{w:World}{fn:Func}{Φ:Value→World→Prop}{s u z b:Nat}{v x:Value}{t T':TypeId}{r:TRow}{L:List Value}(hf:fn.results=#[.cell s t,.tmp u,.tmp z])(hs:E.look Ev s=some (.pointer (some ⟨b,0,none⟩)))(hB:Blk w b L T')(ht:Tab.row P t=some r)(hr:Be r.desc=true)(hz:Nat.beq r.size L.length=true)
  (hu:E.look Ev u=some v) (hx:E.look Ev z=some x) (h:Φ (.tuple #[.agg ⟨L⟩,v,x]) w):QW (bodyPost P fn (FO Φ)) .ret [] n Ev w:=
 QW.body (rs:=[.cell s t,.tmp u,.tmp z]) (vs:=[.agg ⟨L⟩,v,x]) hf ⟨⟨b,hs,C4 ht hr hB (Ab4 hz) (Dz.all L)⟩,hu,hx,trivial⟩ rfl h
set_option maxRecDepth 8000 in
set_option maxHeartbeats 8000000 in
theorem Tb(bk:Fin 3→An)(bv:Fin 3→Value)(w:World)(g:CQ w)(hb:∀i,AA w (bv i) (bk i))(hg:(∀i,Av (bk i)=true)→∀p∈NS bk (Ak bk),Z2 bk (Ak bk) p) :
  AF prog 15 [.agg ⟨[bv 0]⟩,.agg ⟨[bv 1]⟩,.agg ⟨[bv 2]⟩] w (λv w'=>∃ov cv,v=.tuple #[.agg ⟨[ov]⟩,cv,.int .i64 (GT bk).e]∧AA w' ov (GT bk).b∧IX w' cv (GT bk).c∧Ai w w'):=by
 refine Bj func15 ntmps15 ?_;apply CW.seq;apply CW.region;refine Sl ?_;refine CM λA w1 dx c8 hA=>?_;replace hA:Blk w1 A [bv 0] 24:=hA;refine Sl ?_;refine CM λB w2 dy bc hB=>?_;replace hB:Blk w2 B [bv 1] 24:=hB;refine Sl ?_;refine CM λC w3 dz bj hC=>?_;replace hC:Blk w3 C [bv 2] 24:=hC;refine Sl ?_;refine Bo λR w4 e3 bl hR=>?_;replace hA:=((hA.ext bc).ext bj).ext bl;replace hB:=(hB.ext bj).ext bl;replace hC:=hC.ext bl;have ah:=((c8.trans bc).trans bj).trans bl;have e4:=c8.size;have e5:=bc.size;have e6:=bj.size;have e7:=hR.lt;clear c8 bc bj bl;refine Sl ?_;apply LW.nil;apply QW.then_n;have eb:∀i,Av (bk i)=false→GT bk=⟨[],[],1⟩:=λi h=>by
  rw[GT,if_neg];intro c9;rw[c9 i] at h;cases h
 have c0:=λw' (hx:Ai w w')=>Mk (bk 0) (bv 0) w' (g.ext hx) (Aa.ext (hb 0) hx);have c1:=λw' (hx:Ai w w')=>Mk (bk 1) (bv 1) w' (g.ext hx) (Aa.ext (hb 1) hx);have c2:=λw' (hx:Ai w w')=>Mk (bk 2) (bv 2) w' (g.ext hx) (Aa.ext (hb 2) hx);apply CW.seq;refine Sa ?_
 cases e0:Av (bk 0) with
 | false=>
  rw[e0] at c0;refine Ay rfl rfl (c0 _ ah) ?_;rintro v w5 ⟨rfl,ao⟩;replace hR:=hR.ext ao;refine Sa ?_;refine AD λwz aa hR=>?_;refine Sa ?_;refine F2 rfl rfl hR rfl rfl rfl rfl rfl ⟨.slice none 0 0,.slice none 0 0,?_,?_,?_,(ah.trans ao).step aa AdG⟩
  ·rw[eb 0 e0];rfl
  ·rw[eb 0 e0];exact Ab.nil
  ·rw[eb 0 e0];exact Ab.nil
 | true=>
 rw[e0] at c0;refine Ay rfl rfl (c0 _ ah) ?_;rintro v w5 ⟨rfl,ao⟩;replace hR:=hR.ext ao;replace hA:=hA.ext ao;replace hB:=hB.ext ao;replace hC:=hC.ext ao;have ai:=ah.trans ao;refine Sa ?_
 cases e1:Av (bk 1) with
 | false=>
  rw[e1] at c1;refine Ay rfl rfl (c1 _ ai) ?_;rintro v w6 ⟨rfl,ap⟩;replace hR:=hR.ext ap;refine Sa ?_;refine AD λwz aa hR=>?_;refine Sa ?_;refine F2 rfl rfl hR rfl rfl rfl rfl rfl ⟨.slice none 0 0,.slice none 0 0,?_,?_,?_,(ai.trans ap).step aa AdG⟩
  ·rw[eb 1 e1];rfl
  ·rw[eb 1 e1];exact Ab.nil
  ·rw[eb 1 e1];exact Ab.nil
 | true=>
 rw[e1] at c1;refine Ay rfl rfl (c1 _ ai) ?_;rintro v w6 ⟨rfl,ap⟩;replace hR:=hR.ext ap;replace hA:=hA.ext ap;replace hB:=hB.ext ap;replace hC:=hC.ext ap;have aj:=ai.trans ap;refine Sa ?_
 cases e2:Av (bk 2) with
 | false=>
  rw[e2] at c2;refine Ay rfl rfl (c2 _ aj) ?_;rintro v w7 ⟨rfl,aq⟩;replace hR:=hR.ext aq;refine Sa ?_;refine AD λwz aa hR=>?_;refine Sa ?_;refine F2 rfl rfl hR rfl rfl rfl rfl rfl ⟨.slice none 0 0,.slice none 0 0,?_,?_,?_,(aj.trans aq).step aa AdG⟩
  ·rw[eb 2 e2];rfl
  ·rw[eb 2 e2];exact Ab.nil
  ·rw[eb 2 e2];exact Ab.nil
 | true=>
 rw[e2] at c2;refine Ay rfl rfl (c2 _ aj) ?_;rintro v w7 ⟨rfl,aq⟩;have hm:∀i,Av (bk i)=true:=λi=>by
  match i with
  | 0=>exact e0
  | 1=>exact e1
  | 2=>exact e2
 replace hR:=hR.ext aq;replace hA:=hA.ext aq;replace hB:=hB.ext aq;replace hC:=hC.ext aq;have ax:=aj.trans aq;have e8:=ax.size;have cy:=hR.lt;clear c0 c1 c2 ah ai aj ao ap aq eb;refine Sa ?_;refine CM λS0 w8 cz bd be=>?_;replace be:Blk w8 S0 [bv 0,.slice none 0 0] 63:=be;replace hB:=hB.ext bd;replace hC:=hC.ext bd;refine Sa ?_;refine CM λS1 w9 d0 bf bg=>?_;replace bg:Blk w9 S1 [bv 1,.slice none 0 0] 63:=bg;replace hC:=hC.ext bf;refine Sa ?_;refine CM λS2 d5 d6 ad bh=>?_;replace bh:Blk d5 S2 [bv 2,.slice none 0 0] 63:=bh;refine Sa ?_;refine CM λM ca e9 a8 hM=>?_;replace hM:Blk ca M [ptr S0,ptr S1,ptr S2,.slice none 0 0] 66:=hM;obtain⟨S,es0,es1,es2⟩:∃S:Fin 3→Nat,S 0=S0∧S 1=S1∧S 2=S2:=⟨λ| 0=>S0 | 1=>S1 | 2=>S2,rfl,rfl,rfl⟩;rw[←es0] at be hM;rw[←es1] at bg hM;rw[←es2] at bh hM;have z8:=bd.size;have z9:=bf.size;have z10:=ad.size;have z11:=a8.size;have y0:=be.lt;have y1:=bg.lt;have y2:=bh.lt;have bm:=(((ax.trans bd).trans bf).trans ad).trans a8;have hH:FN (λ_=>True) w ca M S bk bv (λ_=>.slice none 0 0) (.slice none 0 0) (λ_=>[]) []:=by
  refine⟨bm,hb,hM,by omega,λi=>?_,λi=>?_,λi j d7=>?_,λi=>Sj.nil,Aq.nil,λi j _ b hb=>by simp[Ac] at hb,λ_ _=>trivial⟩
  ·match i with
   | 0=>exact((be.ext bf).ext ad).ext a8
   | 1=>exact(bg.ext ad).ext a8
   | 2=>exact bh.ext a8
  ·match i with
   | 0=>omega
   | 1=>omega
   | 2=>omega
  ·match i,j,d7 with
   | 0,0,h=>exact absurd rfl h
   | 1,1,h=>exact absurd rfl h
   | 2,2,h=>exact absurd rfl h
   | 0,1,_=>omega
   | 0,2,_=>omega
   | 1,0,_=>omega
   | 1,2,_=>omega
   | 2,0,_=>omega
   | 2,1,_=>omega
 have bn:=(((hR.ext bd).ext bf).ext ad).ext a8;have nsl:=Tp hm;clear hA hB hC hR hM be bg bh bd bf ad a8 ax;subst es0 es1 es2;refine Sa ?_;refine Ay rfl rfl (VD hH hm) ?_;rintro v cp ⟨hO,ay⟩;replace hO:E.Own cp ca.heap.size 9 1 v (Ak bk).length ((Ak bk).map Ao):=hO;obtain⟨np,nc,rfl⟩:=hO.slice;have cb:=hH.later ay;have az:=bn.ext ay;have hK:FN (λw'=>Ce w' (.slice np (Ak bk).length nc) (Ak bk)∧Blk w' R [.slice none 0 0] 24) w cp M S bk bv (λ_=>.slice none 0 0) (.slice none 0 0) (λ_=>[]) []:=
  cb.keeps λw' x=>⟨T3 (hO.chg x (hH.far λb hb=>(hO.lt hb).1)) AdE (L9 hm),az.chg x (cb.other az)⟩
 clear hH cb hO bn az;refine Sw ?_;refine CW.loop (ι:=Nat×(Fin 3→Value)×Value) (λx w'=>x.1≤(Ak bk).length∧FN (λw'=>Ce w' (.slice np (Ak bk).length nc) (Ak bk)∧Blk w' R [.slice none 0 0] 24) w w' M S bk bv x.2.1 x.2.2 (Cd bk ((Ak bk).take x.1)) (NS bk ((Ak bk).take x.1))) (λx=>[(6,.pointer (some ⟨R,0,none⟩)),(9,.pointer (some ⟨M,0,none⟩)),(10,.func (.func 29) ⟨[.pointer (some ⟨M,0,none⟩)]⟩ ⟨[]⟩),(49,.slice np (Ak bk).length nc),(50,.int .i64 ((Ak bk).length:Int)),(51,.int .i64 (x.1:Int))]) (λx=>(Ak bk).length - x.1) (0,λ_=>.slice none 0 0,.slice none 0 0) ⟨by omega,hK⟩ NM ?_;rintro⟨k,sv,out⟩ cq ⟨hk,hN⟩;dsimp only at hk hN;show CW _ _ _ _ _ [(6,.pointer (some ⟨R,0,none⟩)),(9,.pointer (some ⟨M,0,none⟩)),(10,.func (.func 29) ⟨[.pointer (some ⟨M,0,none⟩)]⟩ ⟨[]⟩),(49,.slice np (Ak bk).length nc),(50,.int .i64 ((Ak bk).length:Int)),(51,.int .i64 (k:Int))] _;obtain⟨bo,b0⟩:=hN.keep.now;refine Sw ?_;refine A8 (λc1=>?_) λc1=>?_
 ·have c1:k<(Ak bk).length:=by simp at c1;omega
  obtain⟨nm,cr⟩:∃nm,(Ak bk)[k]?=some nm:=⟨_,Aap c1⟩;obtain⟨a,rfl,-,-,b1⟩:=A2.at bo cr;have l1:=λi=>O3 (bk:=bk) ((Ak bk).take k) i;have l2:=U7 (bk:=bk) ((Ak bk).take k);have l3:((Ak bk).take k).length≤15:=by rw[Acb];omega
  refine Sw ?_;refine LW.call (fs:=[.pointer (some ⟨M,0,none⟩)]) (cs:=[]) rfl rfl rfl (TF hN hm nm (λi=>by have:=l1 i;omega) AdE) ?_;rintro v ar ⟨rfl,sv',out',hP⟩;refine Sw ?_;refine QW.again (k+1,sv',out') ⟨by show k+1≤_;omega,?_⟩ NM (by show _ - (k+1)<_ - k;omega);show FN _ _ _ _ _ _ _ sv' out' (Cd bk ((Ak bk).take (k+1))) (NS bk ((Ak bk).take (k+1)));rw[show(Ak bk).take (k+1)=(Ak bk).take k++[nm] by rw[Ab7,cr];rfl,SZ,XT];exact hP
 have c1:k=(Ak bk).length:=by simp at c1;omega
 subst c1;rw[AbH] at hN;have em:GT bk=if EU (NS bk (Ak bk))=true then⟨[],[],4⟩ else⟨(NS bk (Ak bk)).map (BI bk (Ak bk)),(NS bk (Ak bk)).flatMap (Cy bk (Ak bk)),0⟩:=by rw[GT,if_pos hm]
 have ak:=hg hm;have psl:(NS bk (Ak bk)).length≤15:=by have:=U7 (bk:=bk) (Ak bk);omega
 generalize NS bk (Ak bk)=ps at hN em ak psl;have bp:=hN.top;have ae:=hN.ext;have d8:=ae.size;have d9:=b0.lt;have ea:w.heap.size≤R:=AdE
 obtain⟨op,oc,rfl⟩:=Aq.slice hN.made;have ab:Ab 5 HC (λ_ _ cs p=>cs=F9 S p) cq (.slice op ps.length oc) ps:=Aq.list hN.made AdE λ_ _ _=>trivial;have emade:∀p,∃pp,KZ S p.whole=.pointer pp∧F9 S p=[Ao p.name,.int .i64 p.rows,.int .i64 p.cols,.pointer pp,.bool p.clash]:=λp=>by
  obtain⟨pp,e⟩:∃pp,KZ S p.whole=.pointer pp:=by
   match p.whole with
   | 0=>exact⟨_,rfl⟩
   | 1=>exact⟨_,rfl⟩
   | _+2=>exact⟨_,rfl⟩
  exact⟨pp,e,by rw[F9,e]⟩
 clear hK bo ay hg;refine Sw ?_;refine CW.loop (ι:=Nat) (λk w'=>k≤ps.length∧Ai cq w'∧∀p∈ps.take k,Io p=false) (λk=>[(6,.pointer (some ⟨R,0,none⟩)),(9,.pointer (some ⟨M,0,none⟩)),(62,.slice op ps.length oc),(63,.int .i64 (ps.length:Int)),(64,.int .i64 (k:Int))]) (λk=>ps.length - k) 0 ⟨by omega,Chg.refl _ _,by simp⟩ Et ?_;rintro k ar ⟨hk,a0,bi⟩;have af:=b0.ext a0;have da:=a0.size;refine Sw ?_;refine A8 (λc1=>?_) λc1=>?_
 ·have c1:k<ps.length:=by simp at c1;omega
  obtain⟨p,hp⟩:∃p,ps[k]?=some p:=⟨_,Aap c1⟩;obtain⟨a,cs,rfl,-,-,rfl,b1⟩:=Ab.at ab hp;obtain⟨pp,-,emp⟩:=emade p;rw[emp] at b1;have bq:=λj u hj=>A0 a0 (b1 j u hj);have ag:=Abn hp;have br:ps.take (k+1)=ps.take k++[p]:=by rw[Ab7,hp];rfl
  clear b1 ab;refine Sw ?_;refine Bo λX db dc a9 hX=>?_;refine Sa ?_;refine AD λbs cc hX=>?_;replace hX:Blk bs X [Ao p.name,.int .i64 p.rows,.int .i64 p.cols,.pointer pp,.bool p.clash] 70:=hX;have cd:=a9.size;have a1:Ai ar bs:=a9.step cc AdG;have a6:=af.ext a1;refine Sa ?_;by_cases h1:24<p.rows
  ·refine LW.know (t:=71) (c:=true) rfl Aem ?_;have hl:EU ps=true:=by
    have:ps.any Io=true:=Adk.2 ⟨p,ag,by simp[Io,h1]⟩;simp[EU,this]
   refine Sa ?_;refine AD λwz aa a6=>?_;refine Sa ?_;refine F2 rfl rfl a6 rfl rfl rfl rfl rfl ⟨.slice none 0 0,.slice none 0 0,?_,?_,?_,((ae.trans a0).trans a1).step aa AdG⟩
   ·rw[em,if_pos (hl)];rfl
   ·rw[em,if_pos (hl)];exact Ab.nil
   ·rw[em,if_pos (hl)];exact Ab.nil
  refine LW.know (t:=71) (c:=false) rfl Aem ?_;refine Sa ?_;refine A8 (λc2=>?_) λc2=>?_
  ·have c2:12<p.cols:=by simpa using c2
   have hl:EU ps=true:=by
    have:ps.any Io=true:=Adk.2 ⟨p,ag,by simp[Io,c2]⟩;simp[EU,this]
   refine Sa ?_;refine AD λwz aa a6=>?_;refine Sa ?_;refine F2 rfl rfl a6 rfl rfl rfl rfl rfl ⟨.slice none 0 0,.slice none 0 0,?_,?_,?_,((ae.trans a0).trans a1).step aa AdG⟩
   ·rw[em,if_pos (hl)];rfl
   ·rw[em,if_pos (hl)];exact Ab.nil
   ·rw[em,if_pos (hl)];exact Ab.nil
  have c2:¬12<p.cols:=by simpa using c2
  refine Sa ?_;refine QW.again (k+1) ⟨by omega,a0.trans a1,λq hq=>?_⟩ Et AdE;rw[br] at hq;rcases Abf.1 hq with hq | hq
  ·exact bi q hq
  ·rw[Aad.1 hq];simp[Io,h1,c2]
 have c1:k=ps.length:=by simp at c1;omega
 subst c1;rw[AbH] at bi;have b2:=bp.ext a0;refine Sa ?_;refine A8 (λc3=>?_) λc3=>?_
 ·have c3:5<ps.length:=by simp at c3;omega
  have hl:EU ps=true:=by simp[EU,c3]
  refine Sa ?_;refine AD λwz aa af=>?_;refine Sa ?_;refine F2 rfl rfl af rfl rfl rfl rfl rfl ⟨.slice none 0 0,.slice none 0 0,?_,?_,?_,(ae.trans a0).step aa AdG⟩
  ·rw[em,if_pos (hl)];rfl
  ·rw[em,if_pos (hl)];exact Ab.nil
  ·rw[em,if_pos (hl)];exact Ab.nil
 have c3:ps.length≤5:=by simp at c3;omega
 have hl:EU ps=false:=by
  have:ps.any Io=false:=by
   rw[List.any_eq_false];intro q hq;simp[bi q hq]
  simp[EU,this];omega
 rw[hl,if_neg AdM] at em;have b1:∀k,((ps.take k).flatMap (Cy bk (Ak bk))).length≤1500:=λk=>by
  have h1:=M4 (l:=ps.take k) (f:=Cy bk (Ak bk)) (m:=300) λp hp=>Og (bi p (Adm hp));have h2:(ps.take k).length≤5:=by rw[Acb];omega
  have h3:(ps.take k).length*300≤5*300:=AcM _ h2;omega
 have ac:=Ab.ext' (R':=λ_ _ cs p=>cs=F9 S p) ab a0 λ_ _ _ _ h=>h;have b3:=hN.later a0;have bt:=ae.trans a0;clear ab bp hN b0 ae a0;refine Sa ?_;refine Bo λQ db ec a9 hQ=>?_;have cd:=a9.size;have ed:=hQ.lt;have dd:=af.ext a9;have b2:=b3.top;have de:=b2.ext a9;refine Sw ?_;refine CW.loop (ι:=Nat×Value×Value) (λx w'=>x.1≤ps.length∧Ai ar w'∧Blk w' Q [x.2.1] 24∧Zy (R::Q::(Ac x.2.1++Ac x.2.2)) ar.heap.size w' x.2.1 ((ps.take x.1).map (BI bk (Ak bk)))∧EZ ar.heap.size w' x.2.2 ((ps.take x.1).flatMap (Cy bk (Ak bk)))∧(ps.take x.1).length=x.1) (λx=>[(6,.pointer (some ⟨R,0,none⟩)),(9,.pointer (some ⟨M,0,none⟩)),(15,.pointer (some ⟨Q,0,none⟩)),(16,x.2.2),(88,.slice op ps.length oc),(89,.int .i64 (ps.length:Int)),(90,.int .i64 (x.1:Int))]) (λx=>ps.length - x.1) (0,.slice none 0 0,.slice none 0 0) ⟨by omega,a9,hQ,Aq.nil,Aq.nil,rfl⟩ Ff ?_;rintro⟨k,ov,cv⟩ bs ⟨hk,a1,al,a7,a3,etk⟩;dsimp only at hk al a7 a3 etk;show CW _ _ _ _ _ [(6,.pointer (some ⟨R,0,none⟩)),(9,.pointer (some ⟨M,0,none⟩)),(15,.pointer (some ⟨Q,0,none⟩)),(16,cv),(88,.slice op ps.length oc),(89,.int .i64 (ps.length:Int)),(90,.int .i64 (k:Int))] _;have df:=a1.size;have a6:=af.ext a1;have ce:=b2.ext a1;obtain⟨ovp,ovc,rfl⟩:=Aq.slice a7;obtain⟨cvp,cvc,rfl⟩:=Aq.slice a3;refine Sw ?_;refine A8 (λc1=>?_) λc1=>?_
 ·have c1:k<ps.length:=by simp at c1;omega
  obtain⟨p,hp⟩:∃p,ps[k]?=some p:=⟨_,Aap c1⟩;obtain⟨a,cs,rfl,-,-,rfl,b4⟩:=Ab.at ac hp;have ag:=Abn hp;obtain⟨gr,gc,gn,gs,gf⟩:=ak p ag;have hw:=bi p ag;simp only[Io,AcP,decide_eq_false_iff_not] at hw;have b5:=b3.later a1;have ee:=b5.ext;have br:ps.take (k+1)=ps.take k++[p]:=by rw[Ab7,hp];rfl
  have dg:(ps.take (k+1)).length=k+1:=by rw[br,Aaq,etk];rfl
  have c5:=λb (h:b∈Ac (Value.slice ovp ((ps.take k).map (BI bk (Ak bk))).length ovc))=>Aq.lt a7 h;have c6:=λb (h:b∈Ac (Value.slice cvp ((ps.take k).flatMap (Cy bk (Ak bk))).length cvc))=>Aq.lt a3 h;have lQ:=al.lt;have lR:=a6.lt;have sl:=λi=>O3 (bk:=bk) (Ak bk) i;obtain⟨pp,-,emp⟩:=emade p;have aw:=λw' (hx:Ai bs w')=>Ve (w:=w') (p:=p) (F:=FK bk (Ak bk) p.name) (R::Q::(Ac (.slice ovp ((ps.take k).map (BI bk (Ak bk))).length ovc)++Ac (.slice cvp ((ps.take k).flatMap (Cy bk (Ak bk))).length cvc))) (λj hj=>by
    have hz:=hx.size;simp only[AaT,Abf] at hj;rcases hj with rfl | rfl | hj | hj
    ·omega
    ·omega
    ·have:=(c5 j hj).2;omega
    ·have:=(c6 j hj).2;omega) (ce.ext hx) p.rows.toNat p.cols.toNat AdE AdE AdE AdE gn (λi r c t h=>Wy (hm i) (λs hs=>(gs i s hs).1) h) (λi w2 bc=>by
    have cf:=b5.later (hx.trans bc);rw[emp];exact W2 (bk i) (hm i) (S i) (bv i) (sv i) (Cd bk (Ak bk) i) p.name p.rows p.cols pp p.clash w w2 g (cf.side i) (hb i) cf.ext ((cf.own i).list (by have:=sl i;omega)) (gs i) (gf i))
  rw[emp] at b4;have bq:=λj u hj=>A0 a1 (b4 j u hj);clear b4 ac b3 b5 hb ak em;refine Sw ?_;refine Bo λX dh dc bu hX=>?_;refine Sa ?_;refine AD λbw cg hX=>?_;replace hX:Blk bw X [Ao p.name,.int .i64 p.rows,.int .i64 p.cols,.pointer pp,.bool p.clash] 70:=hX;have di:=bu.size;have b6:Ai bs bw:=bu.step cg AdG;have am:=aw bw b6;rw[emp] at am;refine Sa ?_;refine Ay rfl rfl am ?_;rintro v ct ⟨rv,cw,rfl,c7,ci,bx⟩;obtain⟨rvp,rvc,rfl⟩:=Aq.slice c7;obtain⟨cwp,cwc,rfl⟩:=Aq.slice ci;have dj:=b6.size;have dk:=bx.size;refine Sa ?_;refine Bo λHh ef eg bz hH=>?_;refine Sa ?_;refine AD λb7 cj hH=>?_;replace hH:Blk b7 Hh (Am (BI bk (Ak bk) p) (.slice rvp ((List.range p.rows.toNat).map (Fk p (FK bk (Ak bk) p.name) p.cols.toNat)).length rvc)) 46:=hH;have dl:=bz.size;have a4:Ai ct b7:=bz.step cj AdG;have dm:=a4.size;have a2:=(b6.trans bx).trans a4;have ck:=al.ext a2;have cl:ET (R::Q::(Ac (.slice ovp ((ps.take k).map (BI bk (Ak bk))).length ovc)++Ac (.slice cvp ((ps.take k).flatMap (Cy bk (Ak bk))).length cvc))) ct λw'=>Uc w' (Am (BI bk (Ak bk) p) (.slice rvp ((List.range p.rows.toNat).map (Fk p (FK bk (Ak bk) p.name) p.cols.toNat)).length rvc)) (BI bk (Ak bk) p):=by
   refine Wf (lo:=bw.heap.size) c7 gn (by show((List.range p.rows.toNat).map _).length≤_;simp;omega) λb hb hm=>?_;have:=(Aq.lt c7 hb).1;simp only[AaT,Abf] at hm;rcases hm with rfl | rfl | hm | hm
   ·omega
   ·omega
   ·have:=(c5 b hm).2;omega
   ·have:=(c6 b hm).2;omega
  obtain⟨css,g1,g2,g3,g4⟩:=Aq.ext' (R':=λ_ w cs s=>ET (R::Q::(Ac (.slice ovp ((ps.take k).map (BI bk (Ak bk))).length ovc)++Ac (.slice cvp ((ps.take k).flatMap (Cy bk (Ak bk))).length cvc))) w λw'=>Uc w' cs s) a7 a2 λ_ _ _ _ h=>h.ext a2;have dn:EZ ar.heap.size b7 (.slice cvp ((ps.take k).flatMap (Cy bk (Ak bk))).length cvc) ((ps.take k).flatMap (Cy bk (Ak bk))):=Aq.ext' a3 a2 λ_ _ _ _ h=>h;have cu:EZ bw.heap.size b7 (.slice cwp (Cy bk (Ak bk) p).length cwc) (Cy bk (Ak bk) p):=Aq.ext' ci a4 λ_ _ _ _ h=>h;have apart:∀b∈Ac (.slice ovp ((ps.take k).map (BI bk (Ak bk))).length ovc),b∉Ac (.slice cvp ((ps.take k).flatMap (Cy bk (Ak bk))).length cvc):=λb h1 h2=>by
   obtain⟨cs,hB⟩:=V7 a3 h2;exact absurd (KF a7 h1 hB) AdH
  have nQ:Q∉Ac (.slice ovp ((ps.take k).map (BI bk (Ak bk))).length ovc)∧Q∉Ac (.slice cvp ((ps.take k).flatMap (Cy bk (Ak bk))).length cvc):=⟨λh=>absurd (KF a7 h al) AdH,λh=>absurd (KF a3 h al) AdH⟩;clear a3 c7 ci hX aw am bq;refine Sa ?_;refine Dt λDn dp eh au hD=>?_;replace hD:Blk dp Dn (Am (BI bk (Ak bk) p) (.slice rvp ((List.range p.rows.toNat).map (Fk p (FK bk (Ak bk) p.name) p.cols.toNat)).length rvc)) 46:=hD;have dq:=au.size;refine Sa ?_;refine LW.append (lo:=ar.heap.size) (k:=((ps.take k).map (BI bk (Ak bk))).length) rfl rfl rfl rfl rfl rfl (g3.ext au) AdE hD rfl rfl rfl (by rw[AbA,etk];show(k+1)*49≤140737488355328;omega) rfl ?_;intro v23 ei b8 c4 b9;have dr:=b8.size;have av:=(ck.ext au).chg b8 nQ.1;obtain⟨vp,vc,rfl⟩:=c4.slice;refine Sa ?_;refine CR λcx ba av=>?_;have dt:=ba.size;replace av:Blk cx Q [.slice vp (((ps.take k).map (BI bk (Ak bk))).length+1) vc] 24:=av;have a5:Chg (Q::Ac (.slice ovp ((ps.take k).map (BI bk (Ak bk))).length ovc)) b7 cx:=(Chg.trans (Chg.trans au b8) ba).mono λb hb _=>by
   simp only[Ab5,Abf,Aad] at hb;rcases hb with hb | rfl
   ·exact Abj _ hb
   ·exact Abo ..
  obtain⟨dss,d1,d2,d3,d4⟩:=Aq.chg (R':=λ_ _ cs c=>cs=Ci c) dn a5 (λb hb hm=>by
   rcases AaT.1 hm with rfl | hm
   ·exact nQ.2 hb
   ·exact apart b hm hb) λ_ _ _ _ h=>h
  obtain⟨ess,f1,f2,f3,f4⟩:=Aq.chg (R':=λ_ _ cs c=>cs=Ci c) cu a5 (λb hb hm=>by
   have:=(Aq.lt cu hb).1;rcases AaT.1 hm with rfl | hm
   ·omega
   ·have:=(c5 b hm).2;omega) λ_ _ _ _ h=>h
  have l1:=b1 k;have l2:(Cy bk (Ak bk) p).length≤300:=Og (bi p ag);refine Sa ?_;refine LW.append_any (lo:=ar.heap.size) (k:=((ps.take k).flatMap (Cy bk (Ak bk))).length) (m:=(Cy bk (Ak bk) p).length) (news:=ess.flatten) rfl rfl rfl rfl rfl rfl d3 AdE f3.1 ?_ (SG f1 f4) (by show(_+_)*81≤140737488355328;omega) rfl ?_
  ·obtain⟨ej,⟨e,e'⟩ | ⟨gg,cap,sp,e,du,_⟩⟩:=f3
   ·exact .inl ⟨(Acw e).1,e'⟩
   ·exact .inr ⟨⟨gg,0,none⟩,(Acw e).1,λj u hj=>by
     rw[Au];refine du.cell ?_;rw[AbC,Abk (Abg.1 hj).1];exact hj⟩
  intro v25 dv an cm cn;have dw:=an.size;refine Sa ?_;have aa:Chg (R::Q::(Ac (.slice ovp ((ps.take k).map (BI bk (Ak bk))).length ovc)++Ac (.slice cvp ((ps.take k).flatMap (Cy bk (Ak bk))).length cvc))) b7 dv:=(Chg.trans a5 an).mono λb hb _=>by
   simp only[Abf,AaT] at hb ⊢;rcases hb with (hb | hb) | hb
   ·exact .inr (.inl hb)
   ·exact .inr (.inr (.inl hb))
   ·exact .inr (.inr (.inr hb))
  refine QW.again (k+1,.slice vp (((ps.take k).map (BI bk (Ak bk))).length+1) vc,v25) ⟨by show k+1≤_;omega,?_,av.chg an nQ.2,?_,?_,dg⟩ Ff (by show _ - (k+1)<_ - k;omega)
  ·refine(a1.trans a2).step (Chg.trans a5 an) λb hb=>?_;simp only[Abf,AaT] at hb;rcases hb with (rfl | hb) | hb
   ·omega
   ·exact(c5 b hb).1
   ·exact(c6 b hb).1
  ·have hu:∀j,j∈R::Q::(Ac (.slice vp (((ps.take k).map (BI bk (Ak bk))).length+1) vc)++Ac v25)→j∈R::Q::(Ac (.slice ovp ((ps.take k).map (BI bk (Ak bk))).length ovc)++Ac (.slice cvp ((ps.take k).flatMap (Cy bk (Ak bk))).length cvc))∨b7.heap.size≤j:=λj hj=>by
    simp only[AaT,Abf] at hj ⊢;rcases hj with hj | hj | hj | hj
    ·exact .inl (.inl hj)
    ·exact .inl (.inr (.inl hj))
    ·rcases b9 j hj with h | h
     ·exact .inl (.inr (.inr (.inl h)))
     ·exact .inr AdE
    ·rcases cn j hj with h | h
     ·exact .inl (.inr (.inr (.inr h)))
     ·exact .inr AdE
   show Zy _ _ _ (.slice vp (((ps.take k).map (BI bk (Ak bk))).length+1) vc) ((ps.take (k+1)).map (BI bk (Ak bk)));rw[br,AbG];refine Aq.snoc g1 g2 ((c4.chg ba λb hb hm=>?_).chg an λb hb hm=>?_) rfl (λi y ds hi hd=>(g4 i y ds hi hd).step aa hu) ((cl.ext a4).step aa hu)
   ·simp only[Aad] at hm;subst hm;rcases b9 _ hb with h | h
    ·exact nQ.1 h
    ·omega
   ·rcases b9 _ hb with h | h
    ·exact apart b h hm
    ·have:=(c6 b hm).2;omega
  ·show EZ _ _ _ ((ps.take (k+1)).flatMap (Cy bk (Ak bk)));rw[br,AbF,Acd];exact Vg d1 d2 d4 f1 f2 f4 cm
 ·have c1:k=ps.length:=by simp at c1;omega
  subst c1;have e1:ps.map (BI bk (Ak bk))=(ps.take ps.length).map (BI bk (Ak bk)):=by rw[AbH]
  have e2:ps.flatMap (Cy bk (Ak bk))=(ps.take ps.length).flatMap (Cy bk (Ak bk)):=by rw[AbH]
  rw[e1,e2] at em;have lcf:((ps.take ps.length).flatMap (Cy bk (Ak bk))).length≤1000000:=by
   have:=b1 ps.length;omega
  refine Sa ?_;refine AD λdh bb a6=>?_;have nR:R<ar.heap.size:=af.lt;refine Sa ?_;refine F2 rfl rfl a6 rfl rfl rfl rfl rfl ⟨.slice ovp ((ps.take ps.length).map (BI bk (Ak bk))).length ovc,.slice cvp ((ps.take ps.length).flatMap (Cy bk (Ak bk))).length cvc,?_,?_,?_,(bt.trans a1).step bb AdG⟩
  ·rw[em]
  ·rw[em];have co:=SafO.step (U':=[]) a7 bb (λj hj=>by simp only[Aad] at hj;subst hj;exact Abo ..) (λb hb hm=>by simp only[Aad] at hm;subst hm;have:=(Aq.lt a7 hb).1;omega) (λj hj=>by simp at hj);exact Ab.map (Aq.list (ok:=HC) co (by rw[AbA,etk];omega) λ_ _ _=>trivial) (λ_ h=>h) λ_ _ _ _ h=>h.now
  ·rw[em];exact Aq.list (Aq.chg a3 bb (λb hb hm=>by simp only[Aad] at hm;subst hm;have:=(Aq.lt a3 hb).1;omega) λ_ _ _ _ h=>h) lcf λ_ _ _=>trivial
def NJ(s:Bg)(t:Ae):Prop:=s.rows.to.length=t.rows.length∧s.cols.to.length=t.cols.toNat
def WB(s:Bg):Prop:=s.May∧s.rows.new≤1000000∧s.cols.new≤1000000
theorem OJ(n:Nat):(B7 n).to.length=n:=by simp[B7,B1]
theorem DE{t:Ae}(h:A7 t=true):WB (Aw t)∧NJ (Aw t) t:=by
 obtain⟨_,h2,h3,h4,_⟩:=AZ.1 h;refine⟨⟨⟨N0 AdE,N0 AdE⟩,?_,?_⟩,OJ _,OJ _⟩
 ·show((t.rows.length:Nat):Int)≤_;omega
 ·show((t.cols.toNat:Nat):Int)≤_;omega
theorem XC{o a:Ae}(ho:A7 o=true)(ha:A7 a=true):WB (Ag o a)∧NJ (Ag o a) o:=by
 obtain⟨_,h2,h3,h4,_⟩:=AZ.1 ha;refine⟨⟨E5 ho ha,?_,?_⟩,Cv o a,Ct o a _⟩
 ·show((a.rows.length:Nat):Int)≤_;omega
 ·show((a.cols.toNat:Nat):Int)≤_;omega
theorem P2(nm:List UInt8):WB (C9 nm):=⟨⟨rfl,rfl⟩,by show(0:Int)≤_;omega,by show(0:Int)≤_;omega⟩
theorem U0{a b:AH}(ha:Ey a=true)(hb:Ey b=true)(hl:b.to.length=a.to.length)(h1:a.to.length≤200)(h2:a.new≤200)(h3:b.new≤200):Ey ⟨(A3 a b).o,(A3 a b).now⟩=true∧Ey ⟨(A3 a b).x,(A3 a b).now⟩=true∧Ey ⟨(A3 a b).y,(A3 a b).now⟩=true∧(A3 a b).now≤1000000:=by
 obtain⟨a0,_,_,ra⟩:=Bs ha;obtain⟨b0,_,_,rb⟩:=Bs hb;exact Xj ha hb hl h1 h2 h3 ra rb a0 b0
theorem XD{o a b:Ae}(nm:List UInt8)(ho:A7 o=true)(ha:A7 a=true)(hb:A7 b=true):(WB (AQ nm o a b).o∧NJ (AQ nm o a b).o o)∧(WB (AQ nm o a b).a∧NJ (AQ nm o a b).a a)∧WB (AQ nm o a b).b∧NJ (AQ nm o a b).b b:=by
 obtain⟨m1,m2⟩:=E5 ho ha;obtain⟨m3,m4⟩:=E5 ho hb;obtain⟨s1,s2,s3,s4⟩:=Hq ho ha;obtain⟨t1,t2,t3,t4⟩:=Hq ho hb;have elr:(Ag o b).rows.to.length=(Ag o a).rows.to.length:=by
  show(AO o b).length=(AO o a).length;rw[Cv,Cv]
 have elc:(Ag o b).cols.to.length=(Ag o a).cols.to.length:=by
  show(CT o b (AO o b)).length=(CT o a (AO o a)).length;rw[Ct,Ct]
 obtain⟨r1,r2,r3,r4⟩:=U0 m1 m3 elr s1 s3 t3;obtain⟨c1,c2,c3,c4⟩:=U0 m2 m4 elc s2 s4 t4;obtain⟨lr1,lr2,lr3⟩:=Dw (Ag o a).rows (Ag o b).rows ((Ag o a).rows.to.length+1);obtain⟨lc1,lc2,lc3⟩:=Dw (Ag o a).cols (Ag o b).cols ((Ag o a).cols.to.length+1);rw[←A3] at lr1 lr2 lr3 lc1 lc2 lc3;have kr:(((A3 (Ag o a).rows (Ag o b).rows).now:Nat):Int)≤1000000:=AdE
 have kc:(((A3 (Ag o a).cols (Ag o b).cols).now:Nat):Int)≤1000000:=AdE
 refine⟨⟨⟨⟨r1,c1⟩,kr,kc⟩,lr1.trans (Cv o a),lc1.trans (Ct o a _)⟩,⟨⟨⟨r2,c2⟩,kr,kc⟩,?_,?_⟩,⟨⟨r3,c3⟩,kr,kc⟩,?_,?_⟩
 ·refine lr2.trans ?_;show((a.rows.length:Nat):Int).toNat=_;omega
 ·refine lc2.trans ?_;show((a.cols.toNat:Nat):Int).toNat=_;omega
 ·refine lr3.trans ?_;show((b.rows.length:Nat):Int).toNat=_;omega
 ·refine lc3.trans ?_;show((b.cols.toNat:Nat):Int).toNat=_;omega
section
variable {bk:Fin 3→An}
theorem GG(hm:∀i,Av (bk i)=true)(nm:List UInt8):∀i t,Bh (bk i) nm=some t→A7 t=true∧t.name=nm:=λi _t h=>B9 (hm i) h
theorem Dq(hm:∀i,Av (bk i)=true)(nm:List UInt8):(∀i,(FJ (Bn bk nm) i).sheet=nm)∧(Bn bk nm).name=nm:=by
 obtain⟨h1,h2,h3,h4⟩:=FX (nm:=nm) (o:=Bh (bk 0) nm) (x:=Bh (bk 1) nm) (y:=Bh (bk 2) nm) (λs h=>(GG hm nm 0 s h).2) (λs h=>(GG hm nm 1 s h).2) (λs h=>(GG hm nm 2 s h).2);refine⟨λi=>?_,h4⟩
 match i with
 | 0=>exact h1
 | 1=>exact h2
 | 2=>exact h3
def Sv(o a b:Option Ae)(p:A1):Prop:=0≤p.rows∧0≤p.cols∧(∀t,o=some t→WB p.o∧(p.gone=false→NJ p.o t))∧(∀t,a=some t→WB p.a∧(p.gone=false→NJ p.a t))∧(∀t,b=some t→WB p.b∧(p.gone=false→NJ p.b t))∧(p.gone=true→p.rows=0∧p.cols=0)∧
 (p.whole=1→∃s,a=some s∧p.a=Aw s∧p.rows=s.rows.length∧p.cols=s.cols)∧(2≤p.whole→∃s,b=some s∧p.b=Aw s∧p.rows=s.rows.length∧p.cols=s.cols)∧(p.gone=false→(∀t,o=some t→p.o.gone=false)∧(∀t,a=some t→p.a.gone=false)∧∀t,b=some t→p.b.gone=false)
theorem Pq(nm:List UInt8)(o a b:Option Ae):Sv o a b (D4 nm):=
 ⟨AcK _,AcK _,λ_ _=>⟨P2 nm,λh=>Aea⟩,λ_ _=>⟨P2 nm,λh=>Aea⟩,λ_ _=>⟨P2 nm,λh=>Aea⟩,λ_=>⟨rfl,rfl⟩,λh=>Aea,λh=>absurd h (by show ¬2≤0;omega),λh=>Aea⟩
theorem XN{nm:List UInt8}{o a b:Option Ae}(ho:∀t,o=some t→A7 t=true)(ha:∀t,a=some t→A7 t=true)(hb:∀t,b=some t→A7 t=true):Sv o a b (A4 nm o a b):=by
 have a0:∀t,A7 t=true→∀u,o=some u→(WB (XE nm o t)∧NJ (XE nm o t) u)∧(XE nm o t).gone=false:=λt ht u hu=>by
  subst hu;exact⟨XC (ho u rfl) ht,rfl⟩
 have a1:∀t,A7 t=true→0≤t.cols:=λt ht=>(AZ.1 ht).2.1
 cases a with
 | none=>
  cases b with
  | none=>exact Pq nm _ _ _
  | some t=>
   have ht:=hb t rfl;rw[Kd]
   split
   ·exact Pq nm _ _ _
   ·exact⟨Ac5 _,a1 t ht,λu hu=>⟨(a0 t ht u hu).1.1,λ_=>(a0 t ht u hu).1.2⟩,λ_ h=>Aea,λu hu=>(by cases hu;exact⟨(DE ht).1,λ_=>(DE ht).2⟩),λh=>Aea,λh=>Aea,λ_=>⟨t,rfl,rfl,rfl,rfl⟩,λ_=>⟨λu hu=>(a0 t ht u hu).2,λ_ h=>Aea,λ_ _=>rfl⟩⟩
 | some s=>
  have hs:=ha s rfl
  cases b with
  | none=>
   rw[Ke]
   split
   ·exact Pq nm _ _ _
   ·exact⟨Ac5 _,a1 s hs,λu hu=>⟨(a0 s hs u hu).1.1,λ_=>(a0 s hs u hu).1.2⟩,λu hu=>Aei,λ_ h=>Aea,λh=>Aea,λ_=>⟨s,rfl,rfl,rfl,rfl⟩,λh=>absurd h (by show ¬2≤1;omega),λ_=>⟨λu hu=>(a0 s hs u hu).2,λ_ _=>rfl,λ_ h=>Aea⟩⟩
  | some t=>
   have ht:=hb t rfl;rw[HZ]
   split
   ·rename_i e;subst e;exact⟨Ac5 _,a1 s hs,λu hu=>⟨(a0 s hs u hu).1.1,λ_=>(a0 s hs u hu).1.2⟩,λu hu=>Aei,λu hu=>Aei,λh=>Aea,λh=>Aea,λh=>absurd h (by show ¬2≤0;omega),λ_=>⟨λu hu=>(a0 s hs u hu).2,λ_ _=>rfl,λ_ _=>rfl⟩⟩
   ·cases o with
    | none=>exact⟨Ac5 _,a1 s hs,λ_ h=>Aea,λu hu=>Aei,λu hu=>(by cases hu;exact⟨(DE ht).1,λ_=>(DE ht).2⟩),λh=>Aea,λ_=>⟨s,rfl,rfl,rfl,rfl⟩,λh=>absurd h (by show ¬2≤1;omega),λ_=>⟨λ_ h=>Aea,λ_ _=>rfl,λ_ _=>rfl⟩⟩
    | some u=>
     obtain⟨h1,h2,h3⟩:=XD nm (ho u rfl) hs ht;exact⟨Ac5 _,Ac5 _,λv hv=>(by cases hv;exact⟨h1.1,λ_=>h1.2⟩),λv hv=>(by cases hv;exact⟨h2.1,λ_=>h2.2⟩),λv hv=>(by cases hv;exact⟨h3.1,λ_=>h3.2⟩),λh=>Aea,λh=>Aea,λh=>absurd h (by show ¬2≤0;omega),λ_=>⟨λ_ _=>rfl,λ_ _=>rfl,λ_ _=>rfl⟩⟩
theorem Kg(hm:∀i,Av (bk i)=true)(nm:List UInt8):Sv (Bh (bk 0) nm) (Bh (bk 1) nm) (Bh (bk 2) nm) (Bn bk nm):=
 XN (λt h=>(GG hm nm 0 t h).1) (λt h=>(GG hm nm 1 t h).1) (λt h=>(GG hm nm 2 t h).1)
theorem PN(hm:∀i,Av (bk i)=true)(nm:List UInt8)(i:Fin 3)(t:Ae)(h:Bh (bk i) nm=some t):WB (FJ (Bn bk nm) i)∧((Bn bk nm).gone=false→NJ (FJ (Bn bk nm) i) t∧(FJ (Bn bk nm) i).gone=false):=by
 obtain⟨-,-,h0,h1,h2,-,-,-,hg⟩:=Kg hm nm
 match i,h with
 | 0,h=>exact⟨(h0 t h).1,λe=>⟨(h0 t h).2 e,(hg e).1 t h⟩⟩
 | 1,h=>exact⟨(h1 t h).1,λe=>⟨(h1 t h).2 e,(hg e).2.1 t h⟩⟩
 | 2,h=>exact⟨(h2 t h).1,λe=>⟨(h2 t h).2 e,(hg e).2.2 t h⟩⟩
theorem P9{ns:List (List UInt8)}{p:A1}(h:p∈NS bk ns):∃nm∈ns,p=Bn bk nm∧p.gone=false:=by
 obtain⟨nm,hn,hp⟩:=Adl.1 h;unfold H4 at hp
 split at hp
 ·cases hp
 ·rename_i e;obtain rfl:=Aad.1 hp;exact⟨nm,hn,rfl,by simpa using e⟩
theorem O4{ns:List (List UInt8)}{i:Fin 3}{s:Bg}(h:s∈Cd bk ns i):∃nm∈ns,∃t,Bh (bk i) nm=some t∧s=FJ (Bn bk nm) i:=by
 obtain⟨nm,hn,hp⟩:=Adl.1 h
 split at hp
 ·rename_i e;obtain⟨t,ht⟩:=Option.isSome_iff_exists.1 e;exact⟨nm,hn,t,ht,Aad.1 hp⟩
 ·cases hp
theorem Xd(hm:∀i,Av (bk i)=true){ns:List (List UInt8)}{i:Fin 3}{nm:List UInt8}{t:Ae}(hn:nm∈ns)(ht:Bh (bk i) nm=some t):Ec (Cd bk ns i) nm=some (FJ (Bn bk nm) i):=by
 have a0:FJ (Bn bk nm) i∈Cd bk ns i:=Adl.2 ⟨nm,hn,by rw[if_pos (by rw[ht];rfl)];exact Aad.2 rfl⟩
 cases e:Ec (Cd bk ns i) nm with
 | none=>
  exfalso;unfold Ec at e;rw[List.find?_eq_none] at e;have:=e _ a0;rw[(Dq hm nm).1 i] at this
  simp at this
 | some s=>
  obtain⟨h1,h2⟩:=Gy e;obtain⟨nm',-,t',-,rfl⟩:=O4 h1;rw[(Dq hm nm').1 i] at h2;rw[h2]
theorem XS(hm:∀i,Av (bk i)=true):∀p∈NS bk (Ak bk),Z2 bk (Ak bk) p:=λp hp=>by
 obtain⟨nm,hn,rfl,hg⟩:=P9 hp;obtain⟨h1,h2,-⟩:=Kg hm nm;refine⟨h1,h2,?_,λi s hs=>?_,λi t s ht hs=>?_⟩
 ·rw[(Dq hm nm).2];exact L9 hm nm hn
 ·obtain⟨nm',-,t,ht,rfl⟩:=O4 hs;exact(PN hm nm' i t ht).1
 ·rw[(Dq hm nm).2] at ht hs;rw[Xd hm hn ht] at hs;obtain rfl:=Abm hs;exact((PN hm nm i t ht).2 hg).1
end
theorem ZN(ss:List Bg)(b:An)(nm:List UInt8):NG (BU ss b) nm=NG b nm:=by
 unfold NG BU;rw[List.findIdx?_map];rfl
theorem Yo(ss:List Bg)(b:An)(nm:List UInt8):Bh (BU ss b) nm=(Bh b nm).map (KL ss):=by
 unfold Bh;rw[ZN]
 cases NG b nm with
 | none=>rfl
 | some i=>
  show(BU ss b)[i]?=Option.map (KL ss) b[i]?;rw[BU,Ab1]
theorem ZC(ss:List Bg)(t:Ae)(i j:Nat):(((KL ss t).rows.getD i []).getD j [])=D7 t.name ss ((t.rows.getD i []).getD j []):=by
 have hz:D7 t.name ss []=[]:=DH (.inl rfl);show((t.rows.map (Jh t.name ss)).getD i []).getD j []=_;rw[AaF,AaF,AaF,AaF,Ab1]
 cases t.rows[i]? with
 | none=>simp[hz]
 | some row=>
  simp only[Ab3,Ac2,Jh,Ab1]
  cases row[j]? with
  | none=>simp[hz]
  | some y=>simp
section
variable {bk:Fin 3→An}
theorem Ry(ns:List (List UInt8)):NS bk ns=Ed (ns.map (Bn bk)):=by
 induction ns with
 | nil=>rfl
 | cons nm ns ih=>
  show H4 (Bn bk nm)++NS bk ns=_;rw[ih,AbK];unfold H4 Ed;rw[List.filter_cons];cases(Bn bk nm).gone<;>rfl
theorem Jr(hm:∀i,Av (bk i)=true)(ns:List (List UInt8))(i:Fin 3):Cd bk ns i=JZ (bk i) ((ns.map (Bn bk)).map λP=>FJ P i):=by
 induction ns with
 | nil=>rfl
 | cons nm ns ih=>
  show(if (Bh (bk i) nm).isSome=true then[FJ (Bn bk nm) i] else[])++Cd bk ns i=_;rw[ih,AbK,AbK];unfold JZ;rw[List.filter_cons,(Dq hm nm).1 i,←J6];cases(Bh (bk i) nm).isSome<;>rfl
theorem Xw(hm:∀i,Av (bk i)=true)(ns:List (List UInt8)):EU (NS bk ns)=F6 (ns.map (Bn bk)):=by
 unfold EU F6;rw[←Ry]
 congr 1
 rw[AcT,Adk,Adk];constructor
 ·rintro⟨p,hp,hw⟩;obtain⟨nm,hn,rfl,-⟩:=P9 hp;exact⟨_,AbE.2 ⟨nm,hn,rfl⟩,hw⟩
 ·rintro⟨p,hp,hw⟩;obtain⟨nm,hn,rfl⟩:=AbE.1 hp;refine⟨Bn bk nm,?_,hw⟩;refine Adl.2 ⟨nm,hn,?_⟩;unfold H4
  cases e:(Bn bk nm).gone with
  | false=>simp
  | true=>
   exfalso;obtain⟨-,-,-,-,-,h,-⟩:=Kg hm nm;obtain⟨h1,h2⟩:=h e;rw[h1,h2] at hw;simp at hw
theorem W1(hm:∀i,Av (bk i)=true){ns:List (List UInt8)}{nm:List UInt8}(hn:nm∈ns)(hg:(Bn bk nm).gone=false)(i:Fin 3)(r c:Nat):FK bk ns nm i r c=H0 (BU (Cd bk ns i) (bk i)) (FJ (Bn bk nm) i) r c:=by
 unfold FK Jj H0;rw[(Dq hm nm).1 i,Yo]
 cases e:Bh (bk i) nm with
 | none=>rfl
 | some t=>
  rw[Xd hm hn e,Ab3];dsimp only;rw[if_neg (by rw[((PN hm nm i t e).2 hg).2];simp)];obtain rfl:=(BD e).1
  cases Dg (FJ (Bn bk t.name) i).rows.to (r:Int) with
  | none=>rfl
  | some x=>
   cases Dg (FJ (Bn bk t.name) i).cols.to (c:Int) with
   | none=>rfl
   | some y=>exact congrArg some (ZC _ t x y).symm
theorem UF(hm:∀i,Av (bk i)=true){ns:List (List UInt8)}{nm:List UInt8}(hn:nm∈ns)(i:Fin 3){s:Ae}(hs:Bh (bk i) nm=some s)(hst:FJ (Bn bk nm) i=Aw s){r c:Nat}(hr:r<s.rows.length)(hc:c<s.cols.toNat):(FK bk ns nm i r c).getD []=Y6 (BU (Cd bk ns i) (bk i)) nm r c:=by
 unfold FK Jj Y6;rw[Yo,hs,Xd hm hn hs,hst,Ab3];dsimp only;rw[show(Aw s).rows.to=(B7 s.rows.length).to from rfl,show(Aw s).cols.to=(B7 s.cols.toNat).to from rfl,Hj hr,Hj hc];obtain rfl:=(BD hs).1;rw[ZC];rfl
theorem Vd(hm:∀i,Av (bk i)=true){ns:List (List UInt8)}{nm:List UInt8}(hn:nm∈ns)(hg:(Bn bk nm).gone=false){r c:Nat}(hr:(r:Int)<(Bn bk nm).rows)(hc:(c:Int)<(Bn bk nm).cols):DY (Bn bk nm) (FK bk ns nm) r c=GE (Bn bk nm) (BU (Cd bk ns 0) (bk 0)) (BU (Cd bk ns 1) (bk 1)) (BU (Cd bk ns 2) (bk 2)) r c:=by
 have f:=λi=>W1 hm hn hg i r c;obtain⟨-,-,-,-,-,-,h1,h2,-⟩:=Kg hm nm;have a0:=(Dq hm nm).2;unfold DY GE;rcases e:(Bn bk nm).whole with _ | _ | k
 ·show CN _ _ _=CN _ _ _;rw[f 0,f 1,f 2];rfl
 ·obtain⟨s,hs,a1,k1,k2⟩:=h1 e;show((FK bk ns nm 1 r c).getD [],none)=(Y6 _ (Bn bk nm).name r c,none);rw[a0,UF hm hn 1 hs a1 AdE AdE]
 ·obtain⟨s,hs,a1,k1,k2⟩:=h2 AdE;show((FK bk ns nm 2 r c).getD [],none)=(Y6 _ (Bn bk nm).name r c,none);rw[a0,UF hm hn 2 hs a1 AdE AdE]
theorem GN{α β:Type}{f g:α→List β}:∀{l:List α},(∀a∈l,f a=g a)→l.flatMap f=l.flatMap g
 | [],_=>rfl
 | a::l,h=>by rw[Ab6,Ab6,h a (Abo ..),GN λb hb=>h b (Abj _ hb)]
theorem N8(hm:∀i,Av (bk i)=true){ns:List (List UInt8)}{p:A1}(hp:p∈NS bk ns):BI bk ns p=EY p (BU (Cd bk ns 0) (bk 0)) (BU (Cd bk ns 1) (bk 1)) (BU (Cd bk ns 2) (bk 2))∧Cy bk ns p=Jb p (BU (Cd bk ns 0) (bk 0)) (BU (Cd bk ns 1) (bk 1)) (BU (Cd bk ns 2) (bk 2)):=by
 obtain⟨nm,hn,rfl,hg⟩:=P9 hp;have a0:=(Dq hm nm).2;have key:∀r∈List.range (Bn bk nm).rows.toNat,∀c∈List.range (Bn bk nm).cols.toNat,DY (Bn bk nm) (FK bk ns nm) r c=GE (Bn bk nm) (BU (Cd bk ns 0) (bk 0)) (BU (Cd bk ns 1) (bk 1)) (BU (Cd bk ns 2) (bk 2)) r c:=λr hr c hc=>by
  have hr:=AbB.1 hr;have hc:=AbB.1 hc;exact Vd hm hn hg AdE AdE
 constructor
 ·unfold BI EY;rw[a0]
  congr 1
  refine Ab0 λr hr=>?_;unfold Fk Wd;refine Ab0 λc hc=>?_;rw[key r hr c hc]
 ·unfold Cy Jb AE;rw[a0]
  congr 1
  refine GN λr hr=>?_;unfold Bc;refine GN λc hc=>?_;unfold Cn Uh;rw[key r hr c hc,a0];rfl
theorem V9(bk:Fin 3→An):GT bk=Cs (bk 0) (bk 1) (bk 2):=by
 unfold GT Cs;by_cases h:∀i,Av (bk i)=true
 ·rw[if_pos h,if_pos (show Av (bk 0)=true∧Av (bk 1)=true∧Av (bk 2)=true from⟨h 0,h 1,h 2⟩),Xw h];have e:AN (bk 0) (bk 1) (bk 2)=(Ak bk).map (Bn bk):=rfl;rw[e]
  split
  ·rfl
  ·unfold Gi;rw[e];have eo:C5 (bk 0) (((Ak bk).map (Bn bk)).map A1.o)=BU (Cd bk (Ak bk) 0) (bk 0):=by rw[Jr h];rfl
   have ea:C5 (bk 1) (((Ak bk).map (Bn bk)).map A1.a)=BU (Cd bk (Ak bk) 1) (bk 1):=by rw[Jr h];rfl
   have eb:C5 (bk 2) (((Ak bk).map (Bn bk)).map A1.b)=BU (Cd bk (Ak bk) 2) (bk 2):=by rw[Jr h];rfl
   dsimp only;rw[eo,ea,eb,←Ry]
   congr 1
   ·exact Ab0 λp hp=>(N8 h hp).1
   ·exact GN λp hp=>(N8 h hp).2
 ·rw[if_neg h,if_neg];rintro⟨h0,h1,h2⟩;refine h λi=>?_
  match i with
  | 0=>exact h0
  | 1=>exact h1
  | 2=>exact h2
theorem K1(o a b:An)(vo va vb:Value)(w:World)(g:CQ w)(ho:AA w vo o)(ha:AA w va a)(hb:AA w vb b):AF prog 15 [.agg ⟨[vo]⟩,.agg ⟨[va]⟩,.agg ⟨[vb]⟩] w (λv w'=>∃ov cv,v=.tuple #[.agg ⟨[ov]⟩,cv,.int .i64 (Cs o a b).e]∧AA w' ov (Cs o a b).b∧IX w' cv (Cs o a b).c∧Ai w w'):=by
 have:=Tb (λ| 0=>o | 1=>a | 2=>b) (λ| 0=>vo | 1=>va | 2=>vb) w g (λi=>by
  match i with
  | 0=>exact ho
  | 1=>exact ha
  | 2=>exact hb) XS
 rw[V9] at this;exact this
end
end Go.Proofs.YtcjjcnecopnpcaaGreatDoor
