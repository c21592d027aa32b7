/-
  Joined by program out of the texts Mge9 MrgK MrgL.
-/
import Derived.Test.YtcjjcnecopnpcaaGreatDoorMzR
import Derived.Test.YtcjjcnecopnpcaaGreatDoorMzQ
import Derived.Test.YtcjjcnecopnpcaaGreatDoorMzK
import Derived.Test.YtcjjcnecopnpcaaGreatDoorMzM
namespace Go.Proofs.YtcjjcnecopnpcaaGreatDoor
open Tryz
open Go Go.E
def Bs(bk:Fin 3→Ao)(nm:List UInt8):AF:=BN nm (BE (bk 0) nm) (BE (bk 1) nm) (BE (bk 2) nm)
def Ck(bk:Fin 3→Ao)(ns:List (List UInt8)):Fin 3→List Bl:=λi=>ns.flatMap λnm=>if (BE (bk i) nm).isSome=true then[FW (Bs bk nm) i] else[]
def NX(bk:Fin 3→Ao)(ns:List (List UInt8)):List AF:=ns.flatMap λnm=>HH (Bs bk nm)
section
variable {bk:Fin 3→Ao}
theorem SX(ns:List (List UInt8))(nm:List UInt8):Ck bk (ns++[nm])=OG bk (Ck bk ns) nm (Bs bk nm):=by
 funext i
 simp[Ck,OG]
theorem Yd(ns:List (List UInt8))(nm:List UInt8):NX bk (ns++[nm])=NX bk ns++HH (Bs bk nm):=by simp[NX]
theorem Hi{α β:Type}{f:α→List β}(h:∀a,(f a).length≤1):∀l:List α,(l.flatMap f).length≤l.length
 | []=>by simp
 | a::l=>by
  have:=Hi h l;have:=h a;rw[AbX,B6,AaF];omega
theorem OB(ns:List (List UInt8))(i:Fin 3):(Ck bk ns i).length≤ns.length:=Hi (λnm=>by split<;>simp) ns
theorem Uw(ns:List (List UInt8)):(NX bk ns).length≤ns.length:=Hi (λnm=>by unfold HH;split<;>simp) ns
end
theorem QQ(x:List UInt8):∀l,(Je x l).length≤l.length+1
 | []=>by simp[Je]
 | y::r=>by
  have:=QQ x r;rw[Je]
  split
  ·simp only[AaF];omega
  ·split<;>simp
theorem MU:∀(l r:List (List UInt8)),(l.foldl (λr x=>Je x r) r).length≤l.length+r.length
 | [],r=>by simp
 | x::l,r=>by
  have:=MU l (Je x r);have:=QQ x r;rw[AcN,AaF];omega
noncomputable def FK(bk:Fin 3→Ao)(ns:List (List UInt8))(nm:List UInt8):Fin 3→Nat→Nat→Option (List UInt8):=λi=>Jp (bk i) (Ck bk ns i) nm
noncomputable def BS(bk:Fin 3→Ao)(ns:List (List UInt8))(p:AF):Af:=⟨p.name,p.cols,(List.range p.rows.toNat).map (F0 p (FK bk ns p.name) p.cols.toNat)⟩
noncomputable def C1(bk:Fin 3→Ao)(ns:List (List UInt8))(p:AF):List HA:=AL p++(List.range p.rows.toNat).flatMap (Bi p (FK bk ns p.name) p.cols.toNat)
def Am(bk:Fin 3→Ao):List (List UInt8):=Gx (bk 0) (bk 1) (bk 2)
def I0(p:AF):Bool:=decide (24<p.rows)||decide (12<p.cols)
def Fi(ps:List AF):Bool:=ps.any I0||decide (5<ps.length)
noncomputable def Hp(bk:Fin 3→Ao):JJ:=if ∀i,Aw (bk i)=true then(if Fi (NX bk (Am bk))=true then⟨[],[],4⟩ else⟨(NX bk (Am bk)).map (BS bk (Am bk)),(NX bk (Am bk)).flatMap (C1 bk (Am bk)),0⟩) else⟨[],[],1⟩
def ZP(bk:Fin 3→Ao)(ns:List (List UInt8))(p:AF):Prop:=0≤p.rows∧0≤p.cols∧p.name.length≤1000000∧(∀i,∀s∈Ck bk ns i,s.May∧s.rows.new≤1000000∧s.cols.new≤1000000)∧∀i t s,BE (bk i) p.name=some t→En (Ck bk ns i) p.name=some s→s.rows.to.length=t.rows.length∧s.cols.to.length=t.cols.toNat
theorem Ti{bk:Fin 3→Ao}(hm:∀i,Aw (bk i)=true):(Am bk).length≤15:=by
 have h:=λi=>(Co.1 (hm i)).1;have h0:=h 0;have h1:=h 1;have h2:=h 2;have:=MU ((bk 0).map Af.name++(bk 1).map Af.name++(bk 2).map Af.name) [];simp only[B6,Abr,Abz] at this;show(Ii _).length≤15;unfold Ii;omega
theorem L6{bk:Fin 3→Ao}(hm:∀i,Aw (bk i)=true):∀t∈Am bk,t.length≤1000000:=λt ht=>by
 have key:∀i,t∈(bk i).map Af.name→t.length≤1000000:=λi h=>by
  obtain⟨s,hs,rfl⟩:=AbJ.1 h;have:=(FP (B1.1 ((Co.1 (hm i)).2.1 s hs)).1).2.1;omega
 rcases((L5 (bk 0) (bk 1) (bk 2)).2 t).1 ht with h | h | h
 ·exact key 0 h
 ·exact key 1 h
 ·exact key 2 h
theorem W0{b:Ao}(hb:Aw b=true){ss:List Bl}(hss:∀s∈ss,s.May){nm:List UInt8}{r c:Nat}{x:List UInt8}(h:Jp b ss nm r c=some x):x.length≤1000000:=by
 unfold Jp at h
 split at h
 ·rename_i t s h1 h2
  split at h
  ·rename_i i j h3 h4;obtain rfl:=Ab9 h;obtain⟨-,-,-,-,a0⟩:=B1.1 (Cu hb h1).1;have key:(t.rows.getD i []).getD j []=[]∨Cs ((t.rows.getD i []).getD j [])=true:=by
    rw[AaE,AaE]
    cases e1:t.rows[i]? with
    | none=>exact .inl rfl
    | some row=>
     rw[AcT]
     cases e2:row[j]? with
     | none=>exact .inl rfl
     | some y=>exact .inr ((a0 row (Ab7 e1)).2 y (Ab7 e2))
   rcases key with e | e
   ·rw[e,EF (.inl rfl)];simp
   ·have:=GI (MS (own:=nm) hss e);omega
  ·cases h
 ·cases h
theorem Oo{bk:Fin 3→Ao}{ns:List (List UInt8)}{p:AF}(h:I0 p=false):(C1 bk ns p).length≤300:=by
 simp only[I0,Adm,decide_eq_false_iff_not] at h;have e1:∀r c,(Cr p (FK bk ns p.name) r c).length≤1:=λr c=>by unfold Cr;split<;>simp
 have e2:∀r,(Bi p (FK bk ns p.name) p.cols.toNat r).length≤p.cols.toNat:=λr=>flat_len e1 _;have e3:=KA e2 p.rows.toNat;have e4:(AL p).length≤1:=by unfold AL;split<;>simp
 have:p.rows.toNat*p.cols.toNat≤24*12:=AcA AdV AdV;unfold C1;rw[B6];omega
theorem M6{α β:Type}{f:α→List β}{m:Nat}:∀{l:List α},(∀a∈l,(f a).length≤m)→(l.flatMap f).length≤l.length*m
 | [],_=>by simp
 | a::l,h=>by
  have:=M6 (l:=l) λb hb=>h b (Abk _ hb);have:=h a (Ab6 ..);rw[AbX,B6,AaF,Acw];omega
theorem KE{α:Type}{m lo:Nat}{T:TypeId}{R:E6 α}{w:World}{v:Value}{l:List α}(h:As m lo T R w v l){b:Nat}(hb:b∈Ac v){cs:List Value}{T':TypeId}(hB:Blk w b cs T'):T'=T:=by
 obtain⟨_,_,_,o,_⟩:=h;exact Own.type o hb hB
theorem V8{α:Type}{m lo:Nat}{T:TypeId}{R:E6 α}{w:World}{v:Value}{l:List α}(h:As m lo T R w v l){b:Nat}(hb:b∈Ac v):∃cs,Blk w b cs T:=by
 obtain⟨_,_,_,⟨_,⟨e,_⟩ | ⟨g,cap,sp,e,hB,_⟩⟩,_⟩:=h
 ·rw[e] at hb;simp[Ac] at hb
 ·rw[e] at hb;simp[Ac] at hb;subst hb;exact⟨_,hB⟩
theorem Nf{w:World}{lo:Nat}{v:Value}{l:List (List UInt8)}(h:E.Own w lo 9 1 v l.length (l.map Av))(hl:l.length≤1000000)(ht:∀t∈l,t.length≤1000000):Bz w v l:=by
 obtain⟨_,⟨rfl,e⟩ | ⟨g,cap,sp,rfl,hB,_⟩⟩:=h
 ·exact⟨hl,.inl ⟨rfl,AbF e⟩⟩
 ·refine⟨hl,.inr ⟨⟨g,0,none⟩,cap,rfl,λ_=>trivial,λi x hi=>⟨[Av x],rfl,⟨rfl,ht x (Ab7 hi)⟩,λj u hj=>?_⟩⟩⟩
  match j,hj with
  | 0,hj=>
   obtain rfl:=Ab9 hj;rw[A5,A5];refine hB.cell ?_;have a0:=(Abu.1 hi).1;rw[show 0+i*1+0=i by omega,AbA (by simpa using a0),AbH,hi];rfl
def TP(w:World)(cs:List Value)(s:Af):Prop:=∃rv,cs=Au s rv∧s.name.length≤1000000∧Cy w rv s.rows
theorem UZ{lo:Nat}{w:World}{v:Value}{l m:List HA}{css dss:List (List Value)}(h1:css.length=l.length)(h2:∀cs∈css,cs.length=6)(h3:∀(i:Nat) x cs,l[i]?=some x→css[i]?=some cs→cs=HD x)(k1:dss.length=m.length)(k2:∀cs∈dss,cs.length=6)(k3:∀(i:Nat) x cs,m[i]?=some x→dss[i]?=some cs→cs=HD x)(hO:E.Own w lo 49 6 v (l.length+m.length) (css.flatten++dss.flatten)):Fo lo w v (l++m):=by
 refine⟨css++dss,by simp[h1,k1],λcs hc=>?_,by simpa using hO,λi x cs hx hc=>?_⟩
 ·rcases AaC.1 hc with hc | hc
  ·exact h2 cs hc
  ·exact k2 cs hc
 ·rcases Ach i l.length with hl | hl
  ·rw[AbA hl] at hx;rw[AbA AdV] at hc;exact h3 i x cs hx hc
  ·rw[Aca hl] at hx;rw[Aca AdV,h1] at hc;exact k3 _ x cs hx hc
theorem S8{m:List HA}{dss:List (List Value)}(k1:dss.length=m.length)(k3:∀(i:Nat) x cs,m[i]?=some x→dss[i]?=some cs→cs=HD x):∀u∈dss.flatten,u.oneCell'=true:=λu hu=>by
 obtain⟨cs,hc,hu⟩:=List.mem_flatten.1 hu;obtain⟨i,hi⟩:=AcQ hc;have hil:=(Abu.1 hi).1;obtain⟨x,hx⟩:∃x,m[i]?=some x:=⟨_,B7 AdV⟩;rw[k3 i x cs hx hi] at hu;simp only[HD,AaH,AbL,or_false] at hu;rcases hu with rfl | rfl | rfl | rfl | rfl | rfl<;>rfl
theorem Wi{V:List Nat}{lo:Nat}{w:World}{rv:Value}{s:Af}(h:UF V lo w rv s.rows)(hn:s.name.length≤1000000)(hl:s.rows.length≤1000000)(hv:∀b∈Ac rv,b∉V):Fu V w λw'=>TP w' (Au s rv) s:=λ_w' x=>
 ⟨rv,rfl,hn,Ab.map (As.list (ok:=G3) (SafO.step (U':=V) h x (λ_ h=>h) hv λ_ h=>.inl h) hl λ_ _ _=>trivial) (λ_ h=>h) λ_ _ _ _ h=>h.now⟩
def ZK(U:List Nat)(lo:Nat)(w:World)(v:Value)(b:Ao):Prop:=As 3 lo 46 (λ_ w cs s=>Fu U w λw'=>TP w' cs s) w v b
def WC(w:World)(v:Value)(l:List HA):Prop:=Ab 6 G3 (λ_ _ cs c=>cs=HD c) w v l
theorem FE{P:Program}[Tab P]{n:Nat}{Ev:Ci}{w:World}{fn:Func}{Φ:Value→World→Prop}{s u z b:Nat}{v x:Value}{t T':TypeId}{r:TRow}{L:List Value}(hf:fn.results=#[.cell s t,.tmp u,.tmp z])(hs:E.look Ev s=some (.pointer (some ⟨b,0,none⟩)))(hB:Blk w b L T')(ht:Tab.row P t=some r)(hr:Bm r.desc=true)(hz:Nat.beq r.size L.length=true)
  (hu:E.look Ev u=some v) (hx:E.look Ev z=some x) (h:Φ (.tuple #[.agg ⟨L⟩,v,x]) w):QW (bodyPost P fn (Gb Φ)) .ret [] n Ev w:=
 QW.body (rs:=[.cell s t,.tmp u,.tmp z]) (vs:=[.agg ⟨L⟩,v,x]) hf ⟨⟨b,hs,C5 ht hr hB (AbP hz) (D7.all L)⟩,hu,hx,trivial⟩ rfl h
set_option maxRecDepth 8000 in
set_option maxHeartbeats 8000000 in
theorem SY(bk:Fin 3→Ao)(bv:Fin 3→Value)(w:World)(g:CT w)(hb:∀i,AR w (bv i) (bk i))(hg:(∀i,Aw (bk i)=true)→∀p∈NX bk (Am bk),ZP bk (Am bk) p) :
  AN prog 15 [.agg ⟨[bv 0]⟩,.agg ⟨[bv 1]⟩,.agg ⟨[bv 2]⟩] w (λv w'=>∃ov cv,v=.tuple #[.agg ⟨[ov]⟩,cv,.int .i64 (Hp bk).e]∧AR w' ov (Hp bk).b∧WC w' cv (Hp bk).c∧Ah w w'):=by
 refine Bq func15 ntmps15 ?_;apply CW.seq;apply CW.region;refine Sl ?_;refine De λA w1 dx c8 hA=>?_;replace hA:Blk w1 A [bv 0] 24:=hA;refine Sl ?_;refine De λB w2 dy bc hB=>?_;replace hB:Blk w2 B [bv 1] 24:=hB;refine Sl ?_;refine De λC w3 dz bj hC=>?_;replace hC:Blk w3 C [bv 2] 24:=hC;refine Sl ?_;refine Bt λR w4 e3 bl hR=>?_;replace hA:=((hA.ext bc).ext bj).ext bl;replace hB:=(hB.ext bj).ext bl;replace hC:=hC.ext bl;have ah:=((c8.trans bc).trans bj).trans bl;have e4:=c8.size;have e5:=bc.size;have e6:=bj.size;have e7:=hR.lt;clear c8 bc bj bl;refine Sl ?_;apply LW.nil;apply QW.then_n;have eb:∀i,Aw (bk i)=false→Hp bk=⟨[],[],1⟩:=λi h=>by
  rw[Hp,if_neg];intro c9;rw[c9 i] at h;cases h
 have c0:=λw' (hx:Ah w w')=>Mm (bk 0) (bv 0) w' (g.ext hx) (Aa.ext (hb 0) hx);have c1:=λw' (hx:Ah w w')=>Mm (bk 1) (bv 1) w' (g.ext hx) (Aa.ext (hb 1) hx);have c2:=λw' (hx:Ah w w')=>Mm (bk 2) (bv 2) w' (g.ext hx) (Aa.ext (hb 2) hx);apply CW.seq;refine Sa ?_
 cases e0:Aw (bk 0) with
 | false=>
  rw[e0] at c0;refine Ar rfl rfl (c0 _ ah) ?_;rintro v w5 ⟨rfl,ao⟩;replace hR:=hR.ext ao;refine Sa ?_;refine AM λwz aa hR=>?_;refine Sa ?_;refine FE rfl rfl hR rfl rfl rfl rfl rfl ⟨.slice none 0 0,.slice none 0 0,?_,?_,?_,(ah.trans ao).step aa AdY⟩
  ·rw[eb 0 e0];rfl
  ·rw[eb 0 e0];exact Ab.nil
  ·rw[eb 0 e0];exact Ab.nil
 | true=>
 rw[e0] at c0;refine Ar rfl rfl (c0 _ ah) ?_;rintro v w5 ⟨rfl,ao⟩;replace hR:=hR.ext ao;replace hA:=hA.ext ao;replace hB:=hB.ext ao;replace hC:=hC.ext ao;have ai:=ah.trans ao;refine Sa ?_
 cases e1:Aw (bk 1) with
 | false=>
  rw[e1] at c1;refine Ar rfl rfl (c1 _ ai) ?_;rintro v w6 ⟨rfl,ap⟩;replace hR:=hR.ext ap;refine Sa ?_;refine AM λwz aa hR=>?_;refine Sa ?_;refine FE rfl rfl hR rfl rfl rfl rfl rfl ⟨.slice none 0 0,.slice none 0 0,?_,?_,?_,(ai.trans ap).step aa AdY⟩
  ·rw[eb 1 e1];rfl
  ·rw[eb 1 e1];exact Ab.nil
  ·rw[eb 1 e1];exact Ab.nil
 | true=>
 rw[e1] at c1;refine Ar rfl rfl (c1 _ ai) ?_;rintro v w6 ⟨rfl,ap⟩;replace hR:=hR.ext ap;replace hA:=hA.ext ap;replace hB:=hB.ext ap;replace hC:=hC.ext ap;have aj:=ai.trans ap;refine Sa ?_
 cases e2:Aw (bk 2) with
 | false=>
  rw[e2] at c2;refine Ar rfl rfl (c2 _ aj) ?_;rintro v w7 ⟨rfl,aq⟩;replace hR:=hR.ext aq;refine Sa ?_;refine AM λwz aa hR=>?_;refine Sa ?_;refine FE rfl rfl hR rfl rfl rfl rfl rfl ⟨.slice none 0 0,.slice none 0 0,?_,?_,?_,(aj.trans aq).step aa AdY⟩
  ·rw[eb 2 e2];rfl
  ·rw[eb 2 e2];exact Ab.nil
  ·rw[eb 2 e2];exact Ab.nil
 | true=>
 rw[e2] at c2;refine Ar rfl rfl (c2 _ aj) ?_;rintro v w7 ⟨rfl,aq⟩;have hm:∀i,Aw (bk i)=true:=λi=>by
  match i with
  | 0=>exact e0
  | 1=>exact e1
  | 2=>exact e2
 replace hR:=hR.ext aq;replace hA:=hA.ext aq;replace hB:=hB.ext aq;replace hC:=hC.ext aq;have ax:=aj.trans aq;have e8:=ax.size;have cy:=hR.lt;clear c0 c1 c2 ah ai aj ao ap aq eb;refine Sa ?_;refine De λS0 w8 cz bd be=>?_;replace be:Blk w8 S0 [bv 0,.slice none 0 0] 63:=be;replace hB:=hB.ext bd;replace hC:=hC.ext bd;refine Sa ?_;refine De λS1 w9 d0 bf bg=>?_;replace bg:Blk w9 S1 [bv 1,.slice none 0 0] 63:=bg;replace hC:=hC.ext bf;refine Sa ?_;refine De λS2 d5 d6 ad bh=>?_;replace bh:Blk d5 S2 [bv 2,.slice none 0 0] 63:=bh;refine Sa ?_;refine De λM ca e9 a8 hM=>?_;replace hM:Blk ca M [ptr S0,ptr S1,ptr S2,.slice none 0 0] 66:=hM;obtain⟨S,es0,es1,es2⟩:∃S:Fin 3→Nat,S 0=S0∧S 1=S1∧S 2=S2:=⟨λ| 0=>S0 | 1=>S1 | 2=>S2,rfl,rfl,rfl⟩;rw[←es0] at be hM;rw[←es1] at bg hM;rw[←es2] at bh hM;have z8:=bd.size;have z9:=bf.size;have z10:=ad.size;have z11:=a8.size;have y0:=be.lt;have y1:=bg.lt;have y2:=bh.lt;have bm:=(((ax.trans bd).trans bf).trans ad).trans a8;have hH:Ga (λ_=>True) w ca M S bk bv (λ_=>.slice none 0 0) (.slice none 0 0) (λ_=>[]) []:=by
  refine⟨bm,hb,hM,by omega,λi=>?_,λi=>?_,λi j d7=>?_,λi=>Sc.nil,As.nil,λi j _ b hb=>by simp[Ac] at hb,λ_ _=>trivial⟩
  ·match i with
   | 0=>exact((be.ext bf).ext ad).ext a8
   | 1=>exact(bg.ext ad).ext a8
   | 2=>exact bh.ext a8
  ·match i with
   | 0=>omega
   | 1=>omega
   | 2=>omega
  ·match i,j,d7 with
   | 0,0,h=>exact absurd rfl h
   | 1,1,h=>exact absurd rfl h
   | 2,2,h=>exact absurd rfl h
   | 0,1,_=>omega
   | 0,2,_=>omega
   | 1,0,_=>omega
   | 1,2,_=>omega
   | 2,0,_=>omega
   | 2,1,_=>omega
 have bn:=(((hR.ext bd).ext bf).ext ad).ext a8;have nsl:=Ti hm;clear hA hB hC hR hM be bg bh bd bf ad a8 ax;subst es0 es1 es2;refine Sa ?_;refine Ar rfl rfl (VG hH hm) ?_;rintro v cp ⟨hO,ay⟩;replace hO:E.Own cp ca.heap.size 9 1 v (Am bk).length ((Am bk).map Av):=hO;obtain⟨np,nc,rfl⟩:=hO.slice;have cb:=hH.later ay;have az:=bn.ext ay;have hK:Ga (λw'=>Bz w' (.slice np (Am bk).length nc) (Am bk)∧Blk w' R [.slice none 0 0] 24) w cp M S bk bv (λ_=>.slice none 0 0) (.slice none 0 0) (λ_=>[]) []:=
  cb.keeps λw' x=>⟨Nf (hO.chg x (hH.far λb hb=>(hO.lt hb).1)) AdV (L6 hm),az.chg x (cb.other az)⟩
 clear hH cb hO bn az;refine Sw ?_;refine CW.loop (ι:=Nat×(Fin 3→Value)×Value) (λx w'=>x.1≤(Am bk).length∧Ga (λw'=>Bz w' (.slice np (Am bk).length nc) (Am bk)∧Blk w' R [.slice none 0 0] 24) w w' M S bk bv x.2.1 x.2.2 (Ck bk ((Am bk).take x.1)) (NX bk ((Am bk).take x.1))) (λx=>[(6,.pointer (some ⟨R,0,none⟩)),(9,.pointer (some ⟨M,0,none⟩)),(10,.func (.func 29) ⟨[.pointer (some ⟨M,0,none⟩)]⟩ ⟨[]⟩),(49,.slice np (Am bk).length nc),(50,.int .i64 ((Am bk).length:Int)),(51,.int .i64 (x.1:Int))]) (λx=>(Am bk).length - x.1) (0,λ_=>.slice none 0 0,.slice none 0 0) ⟨by omega,hK⟩ LM ?_;rintro⟨k,sv,out⟩ cq ⟨hk,hN⟩;dsimp only at hk hN;show CW _ _ _ _ _ [(6,.pointer (some ⟨R,0,none⟩)),(9,.pointer (some ⟨M,0,none⟩)),(10,.func (.func 29) ⟨[.pointer (some ⟨M,0,none⟩)]⟩ ⟨[]⟩),(49,.slice np (Am bk).length nc),(50,.int .i64 ((Am bk).length:Int)),(51,.int .i64 (k:Int))] _;obtain⟨bo,b0⟩:=hN.keep.now;refine Sw ?_;refine AB (λc1=>?_) λc1=>?_
 ·have c1:k<(Am bk).length:=by simp at c1;omega
  obtain⟨nm,cr⟩:∃nm,(Am bk)[k]?=some nm:=⟨_,B7 c1⟩;obtain⟨a,rfl,-,-,b1⟩:=Ak.at bo cr;have l1:=λi=>OB (bk:=bk) ((Am bk).take k) i;have l2:=Uw (bk:=bk) ((Am bk).take k);have l3:((Am bk).take k).length≤15:=by rw[Abf];omega
  refine Sw ?_;refine LW.call (fs:=[.pointer (some ⟨M,0,none⟩)]) (cs:=[]) rfl rfl rfl (T8 hN hm nm (λi=>by have:=l1 i;omega) AdV) ?_;rintro v ar ⟨rfl,sv',out',hP⟩;refine Sw ?_;refine QW.again (k+1,sv',out') ⟨by show k+1≤_;omega,?_⟩ LM (by show _ - (k+1)<_ - k;omega);show Ga _ _ _ _ _ _ _ sv' out' (Ck bk ((Am bk).take (k+1))) (NX bk ((Am bk).take (k+1)));rw[show(Am bk).take (k+1)=(Am bk).take k++[nm] by rw[AbU,cr];rfl,SX,Yd];exact hP
 have c1:k=(Am bk).length:=by simp at c1;omega
 subst c1;rw[Ack] at hN;have em:Hp bk=if Fi (NX bk (Am bk))=true then⟨[],[],4⟩ else⟨(NX bk (Am bk)).map (BS bk (Am bk)),(NX bk (Am bk)).flatMap (C1 bk (Am bk)),0⟩:=by rw[Hp,if_pos hm]
 have ak:=hg hm;have psl:(NX bk (Am bk)).length≤15:=by have:=Uw (bk:=bk) (Am bk);omega
 generalize NX bk (Am bk)=ps at hN em ak psl;have bp:=hN.top;have ae:=hN.ext;have d8:=ae.size;have d9:=b0.lt;have ea:w.heap.size≤R:=AdV
 obtain⟨op,oc,rfl⟩:=As.slice hN.made;have ab:Ab 5 G3 (λ_ _ cs p=>cs=FO S p) cq (.slice op ps.length oc) ps:=As.list hN.made AdV λ_ _ _=>trivial;have emade:∀p,∃pp,KT S p.whole=.pointer pp∧FO S p=[Av p.name,.int .i64 p.rows,.int .i64 p.cols,.pointer pp,.bool p.clash]:=λp=>by
  obtain⟨pp,e⟩:∃pp,KT S p.whole=.pointer pp:=by
   match p.whole with
   | 0=>exact⟨_,rfl⟩
   | 1=>exact⟨_,rfl⟩
   | _+2=>exact⟨_,rfl⟩
  exact⟨pp,e,by rw[FO,e]⟩
 clear hK bo ay hg;refine Sw ?_;refine CW.loop (ι:=Nat) (λk w'=>k≤ps.length∧Ah cq w'∧∀p∈ps.take k,I0 p=false) (λk=>[(6,.pointer (some ⟨R,0,none⟩)),(9,.pointer (some ⟨M,0,none⟩)),(62,.slice op ps.length oc),(63,.int .i64 (ps.length:Int)),(64,.int .i64 (k:Int))]) (λk=>ps.length - k) 0 ⟨by omega,Chg.refl _ _,by simp⟩ EP ?_;rintro k ar ⟨hk,a0,bi⟩;have af:=b0.ext a0;have da:=a0.size;refine Sw ?_;refine AB (λc1=>?_) λc1=>?_
 ·have c1:k<ps.length:=by simp at c1;omega
  obtain⟨p,hp⟩:∃p,ps[k]?=some p:=⟨_,B7 c1⟩;obtain⟨a,cs,rfl,-,-,rfl,b1⟩:=Ab.at ab hp;obtain⟨pp,-,emp⟩:=emade p;rw[emp] at b1;have bq:=λj u hj=>AC a0 (b1 j u hj);have ag:=Ab7 hp;have br:ps.take (k+1)=ps.take k++[p]:=by rw[AbU,hp];rfl
  clear b1 ab;refine Sw ?_;refine Bt λX db dc a9 hX=>?_;refine Sa ?_;refine AM λbs cc hX=>?_;replace hX:Blk bs X [Av p.name,.int .i64 p.rows,.int .i64 p.cols,.pointer pp,.bool p.clash] 70:=hX;have cd:=a9.size;have a1:Ah ar bs:=a9.step cc AdY;have a6:=af.ext a1;refine Sa ?_;by_cases h1:24<p.rows
  ·refine LW.know (t:=71) (c:=true) rfl AeH ?_;have hl:Fi ps=true:=by
    have:ps.any I0=true:=Ad2.2 ⟨p,ag,by simp[I0,h1]⟩;simp[Fi,this]
   refine Sa ?_;refine AM λwz aa a6=>?_;refine Sa ?_;refine FE rfl rfl a6 rfl rfl rfl rfl rfl ⟨.slice none 0 0,.slice none 0 0,?_,?_,?_,((ae.trans a0).trans a1).step aa AdY⟩
   ·rw[em,if_pos (hl)];rfl
   ·rw[em,if_pos (hl)];exact Ab.nil
   ·rw[em,if_pos (hl)];exact Ab.nil
  refine LW.know (t:=71) (c:=false) rfl AeH ?_;refine Sa ?_;refine AB (λc2=>?_) λc2=>?_
  ·have c2:12<p.cols:=by simpa using c2
   have hl:Fi ps=true:=by
    have:ps.any I0=true:=Ad2.2 ⟨p,ag,by simp[I0,c2]⟩;simp[Fi,this]
   refine Sa ?_;refine AM λwz aa a6=>?_;refine Sa ?_;refine FE rfl rfl a6 rfl rfl rfl rfl rfl ⟨.slice none 0 0,.slice none 0 0,?_,?_,?_,((ae.trans a0).trans a1).step aa AdY⟩
   ·rw[em,if_pos (hl)];rfl
   ·rw[em,if_pos (hl)];exact Ab.nil
   ·rw[em,if_pos (hl)];exact Ab.nil
  have c2:¬12<p.cols:=by simpa using c2
  refine Sa ?_;refine QW.again (k+1) ⟨by omega,a0.trans a1,λq hq=>?_⟩ EP AdV;rw[br] at hq;rcases AaC.1 hq with hq | hq
  ·exact bi q hq
  ·rw[B3.1 hq];simp[I0,h1,c2]
 have c1:k=ps.length:=by simp at c1;omega
 subst c1;rw[Ack] at bi;have b2:=bp.ext a0;refine Sa ?_;refine AB (λc3=>?_) λc3=>?_
 ·have c3:5<ps.length:=by simp at c3;omega
  have hl:Fi ps=true:=by simp[Fi,c3]
  refine Sa ?_;refine AM λwz aa af=>?_;refine Sa ?_;refine FE rfl rfl af rfl rfl rfl rfl rfl ⟨.slice none 0 0,.slice none 0 0,?_,?_,?_,(ae.trans a0).step aa AdY⟩
  ·rw[em,if_pos (hl)];rfl
  ·rw[em,if_pos (hl)];exact Ab.nil
  ·rw[em,if_pos (hl)];exact Ab.nil
 have c3:ps.length≤5:=by simp at c3;omega
 have hl:Fi ps=false:=by
  have:ps.any I0=false:=by
   rw[List.any_eq_false];intro q hq;simp[bi q hq]
  simp[Fi,this];omega
 rw[hl,if_neg Aei] at em;have b1:∀k,((ps.take k).flatMap (C1 bk (Am bk))).length≤1500:=λk=>by
  have h1:=M6 (l:=ps.take k) (f:=C1 bk (Am bk)) (m:=300) λp hp=>Oo (bi p (AbD hp));have h2:(ps.take k).length≤5:=by rw[Abf];omega
  have h3:(ps.take k).length*300≤5*300:=Adk _ h2;omega
 have ac:=Ab.ext' (R':=λ_ _ cs p=>cs=FO S p) ab a0 λ_ _ _ _ h=>h;have b3:=hN.later a0;have bt:=ae.trans a0;clear ab bp hN b0 ae a0;refine Sa ?_;refine Bt λQ db ec a9 hQ=>?_;have cd:=a9.size;have ed:=hQ.lt;have dd:=af.ext a9;have b2:=b3.top;have de:=b2.ext a9;refine Sw ?_;refine CW.loop (ι:=Nat×Value×Value) (λx w'=>x.1≤ps.length∧Ah ar w'∧Blk w' Q [x.2.1] 24∧ZK (R::Q::(Ac x.2.1++Ac x.2.2)) ar.heap.size w' x.2.1 ((ps.take x.1).map (BS bk (Am bk)))∧Fo ar.heap.size w' x.2.2 ((ps.take x.1).flatMap (C1 bk (Am bk)))∧(ps.take x.1).length=x.1) (λx=>[(6,.pointer (some ⟨R,0,none⟩)),(9,.pointer (some ⟨M,0,none⟩)),(15,.pointer (some ⟨Q,0,none⟩)),(16,x.2.2),(88,.slice op ps.length oc),(89,.int .i64 (ps.length:Int)),(90,.int .i64 (x.1:Int))]) (λx=>ps.length - x.1) (0,.slice none 0 0,.slice none 0 0) ⟨by omega,a9,hQ,As.nil,As.nil,rfl⟩ Dp ?_;rintro⟨k,ov,cv⟩ bs ⟨hk,a1,al,a7,a3,etk⟩;dsimp only at hk al a7 a3 etk;show CW _ _ _ _ _ [(6,.pointer (some ⟨R,0,none⟩)),(9,.pointer (some ⟨M,0,none⟩)),(15,.pointer (some ⟨Q,0,none⟩)),(16,cv),(88,.slice op ps.length oc),(89,.int .i64 (ps.length:Int)),(90,.int .i64 (k:Int))] _;have df:=a1.size;have a6:=af.ext a1;have ce:=b2.ext a1;obtain⟨ovp,ovc,rfl⟩:=As.slice a7;obtain⟨cvp,cvc,rfl⟩:=As.slice a3;refine Sw ?_;refine AB (λc1=>?_) λc1=>?_
 ·have c1:k<ps.length:=by simp at c1;omega
  obtain⟨p,hp⟩:∃p,ps[k]?=some p:=⟨_,B7 c1⟩;obtain⟨a,cs,rfl,-,-,rfl,b4⟩:=Ab.at ac hp;have ag:=Ab7 hp;obtain⟨gr,gc,gn,gs,gf⟩:=ak p ag;have hw:=bi p ag;simp only[I0,Adm,decide_eq_false_iff_not] at hw;have b5:=b3.later a1;have ee:=b5.ext;have br:ps.take (k+1)=ps.take k++[p]:=by rw[AbU,hp];rfl
  have dg:(ps.take (k+1)).length=k+1:=by rw[br,B6,etk];rfl
  have c5:=λb (h:b∈Ac (Value.slice ovp ((ps.take k).map (BS bk (Am bk))).length ovc))=>As.lt a7 h;have c6:=λb (h:b∈Ac (Value.slice cvp ((ps.take k).flatMap (C1 bk (Am bk))).length cvc))=>As.lt a3 h;have lQ:=al.lt;have lR:=a6.lt;have sl:=λi=>OB (bk:=bk) (Am bk) i;obtain⟨pp,-,emp⟩:=emade p;have aw:=λw' (hx:Ah bs w')=>UW (w:=w') (p:=p) (F:=FK bk (Am bk) p.name) (R::Q::(Ac (.slice ovp ((ps.take k).map (BS bk (Am bk))).length ovc)++Ac (.slice cvp ((ps.take k).flatMap (C1 bk (Am bk))).length cvc))) (λj hj=>by
    have hz:=hx.size;simp only[AaH,AaC] at hj;rcases hj with rfl | rfl | hj | hj
    ·omega
    ·omega
    ·have:=(c5 j hj).2;omega
    ·have:=(c6 j hj).2;omega) (ce.ext hx) p.rows.toNat p.cols.toNat AdV AdV AdV AdV gn (λi r c t h=>W0 (hm i) (λs hs=>(gs i s hs).1) h) (λi w2 bc=>by
    have cf:=b5.later (hx.trans bc);rw[emp];exact W4 (bk i) (hm i) (S i) (bv i) (sv i) (Ck bk (Am bk) i) p.name p.rows p.cols pp p.clash w w2 g (cf.side i) (hb i) cf.ext ((cf.own i).list (by have:=sl i;omega)) (gs i) (gf i))
  rw[emp] at b4;have bq:=λj u hj=>AC a1 (b4 j u hj);clear b4 ac b3 b5 hb ak em;refine Sw ?_;refine Bt λX dh dc bu hX=>?_;refine Sa ?_;refine AM λbw cg hX=>?_;replace hX:Blk bw X [Av p.name,.int .i64 p.rows,.int .i64 p.cols,.pointer pp,.bool p.clash] 70:=hX;have di:=bu.size;have b6:Ah bs bw:=bu.step cg AdY;have am:=aw bw b6;rw[emp] at am;refine Sa ?_;refine Ar rfl rfl am ?_;rintro v ct ⟨rv,cw,rfl,c7,ci,bx⟩;obtain⟨rvp,rvc,rfl⟩:=As.slice c7;obtain⟨cwp,cwc,rfl⟩:=As.slice ci;have dj:=b6.size;have dk:=bx.size;refine Sa ?_;refine Bt λHh ef eg bz hH=>?_;refine Sa ?_;refine AM λb7 cj hH=>?_;replace hH:Blk b7 Hh (Au (BS bk (Am bk) p) (.slice rvp ((List.range p.rows.toNat).map (F0 p (FK bk (Am bk) p.name) p.cols.toNat)).length rvc)) 46:=hH;have dl:=bz.size;have a4:Ah ct b7:=bz.step cj AdY;have dm:=a4.size;have a2:=(b6.trans bx).trans a4;have ck:=al.ext a2;have cl:Fu (R::Q::(Ac (.slice ovp ((ps.take k).map (BS bk (Am bk))).length ovc)++Ac (.slice cvp ((ps.take k).flatMap (C1 bk (Am bk))).length cvc))) ct λw'=>TP w' (Au (BS bk (Am bk) p) (.slice rvp ((List.range p.rows.toNat).map (F0 p (FK bk (Am bk) p.name) p.cols.toNat)).length rvc)) (BS bk (Am bk) p):=by
   refine Wi (lo:=bw.heap.size) c7 gn (by show((List.range p.rows.toNat).map _).length≤_;simp;omega) λb hb hm=>?_;have:=(As.lt c7 hb).1;simp only[AaH,AaC] at hm;rcases hm with rfl | rfl | hm | hm
   ·omega
   ·omega
   ·have:=(c5 b hm).2;omega
   ·have:=(c6 b hm).2;omega
  obtain⟨css,g1,g2,g3,g4⟩:=As.ext' (R':=λ_ w cs s=>Fu (R::Q::(Ac (.slice ovp ((ps.take k).map (BS bk (Am bk))).length ovc)++Ac (.slice cvp ((ps.take k).flatMap (C1 bk (Am bk))).length cvc))) w λw'=>TP w' cs s) a7 a2 λ_ _ _ _ h=>h.ext a2;have dn:Fo ar.heap.size b7 (.slice cvp ((ps.take k).flatMap (C1 bk (Am bk))).length cvc) ((ps.take k).flatMap (C1 bk (Am bk))):=As.ext' a3 a2 λ_ _ _ _ h=>h;have cu:Fo bw.heap.size b7 (.slice cwp (C1 bk (Am bk) p).length cwc) (C1 bk (Am bk) p):=As.ext' ci a4 λ_ _ _ _ h=>h;have apart:∀b∈Ac (.slice ovp ((ps.take k).map (BS bk (Am bk))).length ovc),b∉Ac (.slice cvp ((ps.take k).flatMap (C1 bk (Am bk))).length cvc):=λb h1 h2=>by
   obtain⟨cs,hB⟩:=V8 a3 h2;exact absurd (KE a7 h1 hB) AdZ
  have nQ:Q∉Ac (.slice ovp ((ps.take k).map (BS bk (Am bk))).length ovc)∧Q∉Ac (.slice cvp ((ps.take k).flatMap (C1 bk (Am bk))).length cvc):=⟨λh=>absurd (KE a7 h al) AdZ,λh=>absurd (KE a3 h al) AdZ⟩;clear a3 c7 ci hX aw am bq;refine Sa ?_;refine CF λDn dp eh au hD=>?_;replace hD:Blk dp Dn (Au (BS bk (Am bk) p) (.slice rvp ((List.range p.rows.toNat).map (F0 p (FK bk (Am bk) p.name) p.cols.toNat)).length rvc)) 46:=hD;have dq:=au.size;refine Sa ?_;refine LW.append (lo:=ar.heap.size) (k:=((ps.take k).map (BS bk (Am bk))).length) rfl rfl rfl rfl rfl rfl (g3.ext au) AdV hD rfl rfl rfl (by rw[Abr,etk];show(k+1)*49≤140737488355328;omega) rfl ?_;intro v23 ei b8 c4 b9;have dr:=b8.size;have av:=(ck.ext au).chg b8 nQ.1;obtain⟨vp,vc,rfl⟩:=c4.slice;refine Sa ?_;refine D9 λcx ba av=>?_;have dt:=ba.size;replace av:Blk cx Q [.slice vp (((ps.take k).map (BS bk (Am bk))).length+1) vc] 24:=av;have a5:Chg (Q::Ac (.slice ovp ((ps.take k).map (BS bk (Am bk))).length ovc)) b7 cx:=(Chg.trans (Chg.trans au b8) ba).mono λb hb _=>by
   simp only[AbR,AaC,B3] at hb;rcases hb with hb | rfl
   ·exact Abk _ hb
   ·exact Ab6 ..
  obtain⟨dss,d1,d2,d3,d4⟩:=As.chg (R':=λ_ _ cs c=>cs=HD c) dn a5 (λb hb hm=>by
   rcases AaH.1 hm with rfl | hm
   ·exact nQ.2 hb
   ·exact apart b hm hb) λ_ _ _ _ h=>h
  obtain⟨ess,f1,f2,f3,f4⟩:=As.chg (R':=λ_ _ cs c=>cs=HD c) cu a5 (λb hb hm=>by
   have:=(As.lt cu hb).1;rcases AaH.1 hm with rfl | hm
   ·omega
   ·have:=(c5 b hm).2;omega) λ_ _ _ _ h=>h
  have l1:=b1 k;have l2:(C1 bk (Am bk) p).length≤300:=Oo (bi p ag);refine Sa ?_;refine LW.append_any (lo:=ar.heap.size) (k:=((ps.take k).flatMap (C1 bk (Am bk))).length) (m:=(C1 bk (Am bk) p).length) (news:=ess.flatten) rfl rfl rfl rfl rfl rfl d3 AdV f3.1 ?_ (S8 f1 f4) (by show(_+_)*81≤140737488355328;omega) rfl ?_
  ·obtain⟨ej,⟨e,e'⟩ | ⟨gg,cap,sp,e,du,_⟩⟩:=f3
   ·exact .inl ⟨(AcO e).1,e'⟩
   ·exact .inr ⟨⟨gg,0,none⟩,(AcO e).1,λj u hj=>by
     rw[A5];refine du.cell ?_;rw[Acd,AbA (Abu.1 hj).1];exact hj⟩
  intro v25 dv an cm cn;have dw:=an.size;refine Sa ?_;have aa:Chg (R::Q::(Ac (.slice ovp ((ps.take k).map (BS bk (Am bk))).length ovc)++Ac (.slice cvp ((ps.take k).flatMap (C1 bk (Am bk))).length cvc))) b7 dv:=(Chg.trans a5 an).mono λb hb _=>by
   simp only[AaC,AaH] at hb ⊢;rcases hb with (hb | hb) | hb
   ·exact .inr (.inl hb)
   ·exact .inr (.inr (.inl hb))
   ·exact .inr (.inr (.inr hb))
  refine QW.again (k+1,.slice vp (((ps.take k).map (BS bk (Am bk))).length+1) vc,v25) ⟨by show k+1≤_;omega,?_,av.chg an nQ.2,?_,?_,dg⟩ Dp (by show _ - (k+1)<_ - k;omega)
  ·refine(a1.trans a2).step (Chg.trans a5 an) λb hb=>?_;simp only[AaC,AaH] at hb;rcases hb with (rfl | hb) | hb
   ·omega
   ·exact(c5 b hb).1
   ·exact(c6 b hb).1
  ·have hu:∀j,j∈R::Q::(Ac (.slice vp (((ps.take k).map (BS bk (Am bk))).length+1) vc)++Ac v25)→j∈R::Q::(Ac (.slice ovp ((ps.take k).map (BS bk (Am bk))).length ovc)++Ac (.slice cvp ((ps.take k).flatMap (C1 bk (Am bk))).length cvc))∨b7.heap.size≤j:=λj hj=>by
    simp only[AaH,AaC] at hj ⊢;rcases hj with hj | hj | hj | hj
    ·exact .inl (.inl hj)
    ·exact .inl (.inr (.inl hj))
    ·rcases b9 j hj with h | h
     ·exact .inl (.inr (.inr (.inl h)))
     ·exact .inr AdV
    ·rcases cn j hj with h | h
     ·exact .inl (.inr (.inr (.inr h)))
     ·exact .inr AdV
   show ZK _ _ _ (.slice vp (((ps.take k).map (BS bk (Am bk))).length+1) vc) ((ps.take (k+1)).map (BS bk (Am bk)));rw[br,AbT];refine As.snoc g1 g2 ((c4.chg ba λb hb hm=>?_).chg an λb hb hm=>?_) rfl (λi y ds hi hd=>(g4 i y ds hi hd).step aa hu) ((cl.ext a4).step aa hu)
   ·simp only[B3] at hm;subst hm;rcases b9 _ hb with h | h
    ·exact nQ.1 h
    ·omega
   ·rcases b9 _ hb with h | h
    ·exact apart b h hm
    ·have:=(c6 b hm).2;omega
  ·show Fo _ _ _ ((ps.take (k+1)).flatMap (C1 bk (Am bk)));rw[br,Acl,Acz];exact UZ d1 d2 d4 f1 f2 f4 cm
 ·have c1:k=ps.length:=by simp at c1;omega
  subst c1;have e1:ps.map (BS bk (Am bk))=(ps.take ps.length).map (BS bk (Am bk)):=by rw[Ack]
  have e2:ps.flatMap (C1 bk (Am bk))=(ps.take ps.length).flatMap (C1 bk (Am bk)):=by rw[Ack]
  rw[e1,e2] at em;have lcf:((ps.take ps.length).flatMap (C1 bk (Am bk))).length≤1000000:=by
   have:=b1 ps.length;omega
  refine Sa ?_;refine AM λdh bb a6=>?_;have nR:R<ar.heap.size:=af.lt;refine Sa ?_;refine FE rfl rfl a6 rfl rfl rfl rfl rfl ⟨.slice ovp ((ps.take ps.length).map (BS bk (Am bk))).length ovc,.slice cvp ((ps.take ps.length).flatMap (C1 bk (Am bk))).length cvc,?_,?_,?_,(bt.trans a1).step bb AdY⟩
  ·rw[em]
  ·rw[em];have co:=SafO.step (U':=[]) a7 bb (λj hj=>by simp only[B3] at hj;subst hj;exact Ab6 ..) (λb hb hm=>by simp only[B3] at hm;subst hm;have:=(As.lt a7 hb).1;omega) (λj hj=>by simp at hj);exact Ab.map (As.list (ok:=G3) co (by rw[Abr,etk];omega) λ_ _ _=>trivial) (λ_ h=>h) λ_ _ _ _ h=>h.now
  ·rw[em];exact As.list (As.chg a3 bb (λb hb hm=>by simp only[B3] at hm;subst hm;have:=(As.lt a3 hb).1;omega) λ_ _ _ _ h=>h) lcf λ_ _ _=>trivial
def NK(s:Bl)(t:Af):Prop:=s.rows.to.length=t.rows.length∧s.cols.to.length=t.cols.toNat
def WE(s:Bl):Prop:=s.May∧s.rows.new≤1000000∧s.cols.new≤1000000
theorem OW(n:Nat):(BU n).to.length=n:=by simp[BU,BC]
theorem DO{t:Af}(h:AX t=true):WE (A7 t)∧NK (A7 t) t:=by
 obtain⟨_,h2,h3,h4,_⟩:=B1.1 h;refine⟨⟨⟨N4 AdV,N4 AdV⟩,?_,?_⟩,OW _,OW _⟩
 ·show((t.rows.length:Nat):Int)≤_;omega
 ·show((t.cols.toNat:Nat):Int)≤_;omega
theorem XQ{o a:Af}(ho:AX o=true)(ha:AX a=true):WE (Aj o a)∧NK (Aj o a) o:=by
 obtain⟨_,h2,h3,h4,_⟩:=B1.1 ha;refine⟨⟨FV ho ha,?_,?_⟩,Di o a,Dh o a _⟩
 ·show((a.rows.length:Nat):Int)≤_;omega
 ·show((a.cols.toNat:Nat):Int)≤_;omega
theorem PK(nm:List UInt8):WE (E1 nm):=⟨⟨rfl,rfl⟩,by show(0:Int)≤_;omega,by show(0:Int)≤_;omega⟩
theorem Uq{a b:Bg}(ha:Er a=true)(hb:Er b=true)(hl:b.to.length=a.to.length)(h1:a.to.length≤200)(h2:a.new≤200)(h3:b.new≤200):Er ⟨(A8 a b).o,(A8 a b).now⟩=true∧Er ⟨(A8 a b).x,(A8 a b).now⟩=true∧Er ⟨(A8 a b).y,(A8 a b).now⟩=true∧(A8 a b).now≤1000000:=by
 obtain⟨a0,_,_,ra⟩:=BR ha;obtain⟨b0,_,_,rb⟩:=BR hb;exact Xt ha hb hl h1 h2 h3 ra rb a0 b0
theorem XR{o a b:Af}(nm:List UInt8)(ho:AX o=true)(ha:AX a=true)(hb:AX b=true):(WE (Dx nm o a b).o∧NK (Dx nm o a b).o o)∧(WE (Dx nm o a b).a∧NK (Dx nm o a b).a a)∧WE (Dx nm o a b).b∧NK (Dx nm o a b).b b:=by
 obtain⟨m1,m2⟩:=FV ho ha;obtain⟨m3,m4⟩:=FV ho hb;obtain⟨s1,s2,s3,s4⟩:=H5 ho ha;obtain⟨t1,t2,t3,t4⟩:=H5 ho hb;have elr:(Aj o b).rows.to.length=(Aj o a).rows.to.length:=by
  show(Bb o b).length=(Bb o a).length;rw[Di,Di]
 have elc:(Aj o b).cols.to.length=(Aj o a).cols.to.length:=by
  show(DE o b (Bb o b)).length=(DE o a (Bb o a)).length;rw[Dh,Dh]
 obtain⟨r1,r2,r3,r4⟩:=Uq m1 m3 elr s1 s3 t3;obtain⟨c1,c2,c3,c4⟩:=Uq m2 m4 elc s2 s4 t4;obtain⟨lr1,lr2,lr3⟩:=D3 (Aj o a).rows (Aj o b).rows ((Aj o a).rows.to.length+1);obtain⟨lc1,lc2,lc3⟩:=D3 (Aj o a).cols (Aj o b).cols ((Aj o a).cols.to.length+1);rw[←A8] at lr1 lr2 lr3 lc1 lc2 lc3;have kr:(((A8 (Aj o a).rows (Aj o b).rows).now:Nat):Int)≤1000000:=AdV
 have kc:(((A8 (Aj o a).cols (Aj o b).cols).now:Nat):Int)≤1000000:=AdV
 refine⟨⟨⟨⟨r1,c1⟩,kr,kc⟩,lr1.trans (Di o a),lc1.trans (Dh o a _)⟩,⟨⟨⟨r2,c2⟩,kr,kc⟩,?_,?_⟩,⟨⟨r3,c3⟩,kr,kc⟩,?_,?_⟩
 ·refine lr2.trans ?_;show((a.rows.length:Nat):Int).toNat=_;omega
 ·refine lc2.trans ?_;show((a.cols.toNat:Nat):Int).toNat=_;omega
 ·refine lr3.trans ?_;show((b.rows.length:Nat):Int).toNat=_;omega
 ·refine lc3.trans ?_;show((b.cols.toNat:Nat):Int).toNat=_;omega
section
variable {bk:Fin 3→Ao}
theorem GT(hm:∀i,Aw (bk i)=true)(nm:List UInt8):∀i t,BE (bk i) nm=some t→AX t=true∧t.name=nm:=λi _t h=>Cu (hm i) h
theorem Dw(hm:∀i,Aw (bk i)=true)(nm:List UInt8):(∀i,(FW (Bs bk nm) i).sheet=nm)∧(Bs bk nm).name=nm:=by
 obtain⟨h1,h2,h3,h4⟩:=LA (nm:=nm) (o:=BE (bk 0) nm) (x:=BE (bk 1) nm) (y:=BE (bk 2) nm) (λs h=>(GT hm nm 0 s h).2) (λs h=>(GT hm nm 1 s h).2) (λs h=>(GT hm nm 2 s h).2);refine⟨λi=>?_,h4⟩
 match i with
 | 0=>exact h1
 | 1=>exact h2
 | 2=>exact h3
def Sn(o a b:Option Af)(p:AF):Prop:=0≤p.rows∧0≤p.cols∧(∀t,o=some t→WE p.o∧(p.gone=false→NK p.o t))∧(∀t,a=some t→WE p.a∧(p.gone=false→NK p.a t))∧(∀t,b=some t→WE p.b∧(p.gone=false→NK p.b t))∧(p.gone=true→p.rows=0∧p.cols=0)∧
 (p.whole=1→∃s,a=some s∧p.a=A7 s∧p.rows=s.rows.length∧p.cols=s.cols)∧(2≤p.whole→∃s,b=some s∧p.b=A7 s∧p.rows=s.rows.length∧p.cols=s.cols)∧(p.gone=false→(∀t,o=some t→p.o.gone=false)∧(∀t,a=some t→p.a.gone=false)∧∀t,b=some t→p.b.gone=false)
theorem P2(nm:List UInt8)(o a b:Option Af):Sn o a b (ET nm):=
 ⟨Adi _,Adi _,λ_ _=>⟨PK nm,λh=>Ae1⟩,λ_ _=>⟨PK nm,λh=>Ae1⟩,λ_ _=>⟨PK nm,λh=>Ae1⟩,λ_=>⟨rfl,rfl⟩,λh=>Ae1,λh=>absurd h (by show ¬2≤0;omega),λh=>Ae1⟩
theorem XZ{nm:List UInt8}{o a b:Option Af}(ho:∀t,o=some t→AX t=true)(ha:∀t,a=some t→AX t=true)(hb:∀t,b=some t→AX t=true):Sn o a b (BN nm o a b):=by
 have a0:∀t,AX t=true→∀u,o=some u→(WE (XS nm o t)∧NK (XS nm o t) u)∧(XS nm o t).gone=false:=λt ht u hu=>by
  subst hu;exact⟨XQ (ho u rfl) ht,rfl⟩
 have a1:∀t,AX t=true→0≤t.cols:=λt ht=>(B1.1 ht).2.1
 cases a with
 | none=>
  cases b with
  | none=>exact P2 nm _ _ _
  | some t=>
   have ht:=hb t rfl;rw[Ry]
   split
   ·exact P2 nm _ _ _
   ·exact⟨AcJ _,a1 t ht,λu hu=>⟨(a0 t ht u hu).1.1,λ_=>(a0 t ht u hu).1.2⟩,λ_ h=>Ae1,λu hu=>(by cases hu;exact⟨(DO ht).1,λ_=>(DO ht).2⟩),λh=>Ae1,λh=>Ae1,λ_=>⟨t,rfl,rfl,rfl,rfl⟩,λ_=>⟨λu hu=>(a0 t ht u hu).2,λ_ h=>Ae1,λ_ _=>rfl⟩⟩
 | some s=>
  have hs:=ha s rfl
  cases b with
  | none=>
   rw[Rz]
   split
   ·exact P2 nm _ _ _
   ·exact⟨AcJ _,a1 s hs,λu hu=>⟨(a0 s hs u hu).1.1,λ_=>(a0 s hs u hu).1.2⟩,λu hu=>AeB,λ_ h=>Ae1,λh=>Ae1,λ_=>⟨s,rfl,rfl,rfl,rfl⟩,λh=>absurd h (by show ¬2≤1;omega),λ_=>⟨λu hu=>(a0 s hs u hu).2,λ_ _=>rfl,λ_ h=>Ae1⟩⟩
  | some t=>
   have ht:=hb t rfl;rw[Nl]
   split
   ·rename_i e;subst e;exact⟨AcJ _,a1 s hs,λu hu=>⟨(a0 s hs u hu).1.1,λ_=>(a0 s hs u hu).1.2⟩,λu hu=>AeB,λu hu=>AeB,λh=>Ae1,λh=>Ae1,λh=>absurd h (by show ¬2≤0;omega),λ_=>⟨λu hu=>(a0 s hs u hu).2,λ_ _=>rfl,λ_ _=>rfl⟩⟩
   ·cases o with
    | none=>exact⟨AcJ _,a1 s hs,λ_ h=>Ae1,λu hu=>AeB,λu hu=>(by cases hu;exact⟨(DO ht).1,λ_=>(DO ht).2⟩),λh=>Ae1,λ_=>⟨s,rfl,rfl,rfl,rfl⟩,λh=>absurd h (by show ¬2≤1;omega),λ_=>⟨λ_ h=>Ae1,λ_ _=>rfl,λ_ _=>rfl⟩⟩
    | some u=>
     obtain⟨h1,h2,h3⟩:=XR nm (ho u rfl) hs ht;exact⟨AcJ _,AcJ _,λv hv=>(by cases hv;exact⟨h1.1,λ_=>h1.2⟩),λv hv=>(by cases hv;exact⟨h2.1,λ_=>h2.2⟩),λv hv=>(by cases hv;exact⟨h3.1,λ_=>h3.2⟩),λh=>Ae1,λh=>Ae1,λh=>absurd h (by show ¬2≤0;omega),λ_=>⟨λ_ _=>rfl,λ_ _=>rfl,λ_ _=>rfl⟩⟩
theorem Kl(hm:∀i,Aw (bk i)=true)(nm:List UInt8):Sn (BE (bk 0) nm) (BE (bk 1) nm) (BE (bk 2) nm) (Bs bk nm):=
 XZ (λt h=>(GT hm nm 0 t h).1) (λt h=>(GT hm nm 1 t h).1) (λt h=>(GT hm nm 2 t h).1)
theorem PX(hm:∀i,Aw (bk i)=true)(nm:List UInt8)(i:Fin 3)(t:Af)(h:BE (bk i) nm=some t):WE (FW (Bs bk nm) i)∧((Bs bk nm).gone=false→NK (FW (Bs bk nm) i) t∧(FW (Bs bk nm) i).gone=false):=by
 obtain⟨-,-,h0,h1,h2,-,-,-,hg⟩:=Kl hm nm
 match i,h with
 | 0,h=>exact⟨(h0 t h).1,λe=>⟨(h0 t h).2 e,(hg e).1 t h⟩⟩
 | 1,h=>exact⟨(h1 t h).1,λe=>⟨(h1 t h).2 e,(hg e).2.1 t h⟩⟩
 | 2,h=>exact⟨(h2 t h).1,λe=>⟨(h2 t h).2 e,(hg e).2.2 t h⟩⟩
theorem PR{ns:List (List UInt8)}{p:AF}(h:p∈NX bk ns):∃nm∈ns,p=Bs bk nm∧p.gone=false:=by
 obtain⟨nm,hn,hp⟩:=AcV.1 h;unfold HH at hp
 split at hp
 ·cases hp
 ·rename_i e;obtain rfl:=B3.1 hp;exact⟨nm,hn,rfl,by simpa using e⟩
theorem OC{ns:List (List UInt8)}{i:Fin 3}{s:Bl}(h:s∈Ck bk ns i):∃nm∈ns,∃t,BE (bk i) nm=some t∧s=FW (Bs bk nm) i:=by
 obtain⟨nm,hn,hp⟩:=AcV.1 h
 split at hp
 ·rename_i e;obtain⟨t,ht⟩:=Option.isSome_iff_exists.1 e;exact⟨nm,hn,t,ht,B3.1 hp⟩
 ·cases hp
theorem Xm(hm:∀i,Aw (bk i)=true){ns:List (List UInt8)}{i:Fin 3}{nm:List UInt8}{t:Af}(hn:nm∈ns)(ht:BE (bk i) nm=some t):En (Ck bk ns i) nm=some (FW (Bs bk nm) i):=by
 have a0:FW (Bs bk nm) i∈Ck bk ns i:=AcV.2 ⟨nm,hn,by rw[if_pos (by rw[ht];rfl)];exact B3.2 rfl⟩
 cases e:En (Ck bk ns i) nm with
 | none=>
  exfalso;unfold En at e;rw[List.find?_eq_none] at e;have:=e _ a0;rw[(Dw hm nm).1 i] at this
  simp at this
 | some s=>
  obtain⟨h1,h2⟩:=GA e;obtain⟨nm',-,t',-,rfl⟩:=OC h1;rw[(Dw hm nm').1 i] at h2;rw[h2]
theorem Yc(hm:∀i,Aw (bk i)=true):∀p∈NX bk (Am bk),ZP bk (Am bk) p:=λp hp=>by
 obtain⟨nm,hn,rfl,hg⟩:=PR hp;obtain⟨h1,h2,-⟩:=Kl hm nm;refine⟨h1,h2,?_,λi s hs=>?_,λi t s ht hs=>?_⟩
 ·rw[(Dw hm nm).2];exact L6 hm nm hn
 ·obtain⟨nm',-,t,ht,rfl⟩:=OC hs;exact(PX hm nm' i t ht).1
 ·rw[(Dw hm nm).2] at ht hs;rw[Xm hm hn ht] at hs;obtain rfl:=Ab9 hs;exact((PX hm nm i t ht).2 hg).1
end
theorem Aam(ss:List Bl)(b:Ao)(nm:List UInt8):Pq (Ch ss b) nm=Pq b nm:=by
 unfold Pq Ch;rw[List.findIdx?_map];rfl
theorem Y5(ss:List Bl)(b:Ao)(nm:List UInt8):BE (Ch ss b) nm=(BE b nm).map (NU ss):=by
 unfold BE;rw[Aam]
 cases Pq b nm with
 | none=>rfl
 | some i=>
  show(Ch ss b)[i]?=Option.map (NU ss) b[i]?;rw[Ch,AbH]
theorem ZY(ss:List Bl)(t:Af)(i j:Nat):(((NU ss t).rows.getD i []).getD j [])=CP t.name ss ((t.rows.getD i []).getD j []):=by
 have hz:CP t.name ss []=[]:=EF (.inl rfl);show((t.rows.map (Kg t.name ss)).getD i []).getD j []=_;rw[AaE,AaE,AaE,AaE,AbH]
 cases t.rows[i]? with
 | none=>simp[hz]
 | some row=>
  simp only[AbM,AcT,Kg,AbH]
  cases row[j]? with
  | none=>simp[hz]
  | some y=>simp
section
variable {bk:Fin 3→Ao}
theorem R5(ns:List (List UInt8)):NX bk ns=FL (ns.map (Bs bk)):=by
 induction ns with
 | nil=>rfl
 | cons nm ns ih=>
  show HH (Bs bk nm)++NX bk ns=_;rw[ih,Acb];unfold HH FL;rw[List.filter_cons];cases(Bs bk nm).gone<;>rfl
theorem Jy(hm:∀i,Aw (bk i)=true)(ns:List (List UInt8))(i:Fin 3):Ck bk ns i=Il (bk i) ((ns.map (Bs bk)).map λP=>FW P i):=by
 induction ns with
 | nil=>rfl
 | cons nm ns ih=>
  show(if (BE (bk i) nm).isSome=true then[FW (Bs bk nm) i] else[])++Ck bk ns i=_;rw[ih,Acb,Acb];unfold Il;rw[List.filter_cons,(Dw hm nm).1 i,←N7];cases(BE (bk i) nm).isSome<;>rfl
theorem X6(hm:∀i,Aw (bk i)=true)(ns:List (List UInt8)):Fi (NX bk ns)=Ju (ns.map (Bs bk)):=by
 unfold Fi Ju;rw[←R5]
 congr 1
 rw[Adq,Ad2,Ad2];constructor
 ·rintro⟨p,hp,hw⟩;obtain⟨nm,hn,rfl,-⟩:=PR hp;exact⟨_,AbJ.2 ⟨nm,hn,rfl⟩,hw⟩
 ·rintro⟨p,hp,hw⟩;obtain⟨nm,hn,rfl⟩:=AbJ.1 hp;refine⟨Bs bk nm,?_,hw⟩;refine AcV.2 ⟨nm,hn,?_⟩;unfold HH
  cases e:(Bs bk nm).gone with
  | false=>simp
  | true=>
   exfalso;obtain⟨-,-,-,-,-,h,-⟩:=Kl hm nm;obtain⟨h1,h2⟩:=h e;rw[h1,h2] at hw;simp at hw
theorem W3(hm:∀i,Aw (bk i)=true){ns:List (List UInt8)}{nm:List UInt8}(hn:nm∈ns)(hg:(Bs bk nm).gone=false)(i:Fin 3)(r c:Nat):FK bk ns nm i r c=HF (Ch (Ck bk ns i) (bk i)) (FW (Bs bk nm) i) r c:=by
 unfold FK Jp HF;rw[(Dw hm nm).1 i,Y5]
 cases e:BE (bk i) nm with
 | none=>rfl
 | some t=>
  rw[Xm hm hn e,AbM];dsimp only;rw[if_neg (by rw[((PX hm nm i t e).2 hg).2];simp)];obtain rfl:=(BO e).1
  cases Dl (FW (Bs bk t.name) i).rows.to (r:Int) with
  | none=>rfl
  | some x=>
   cases Dl (FW (Bs bk t.name) i).cols.to (c:Int) with
   | none=>rfl
   | some y=>exact congrArg some (ZY _ t x y).symm
theorem U6(hm:∀i,Aw (bk i)=true){ns:List (List UInt8)}{nm:List UInt8}(hn:nm∈ns)(i:Fin 3){s:Af}(hs:BE (bk i) nm=some s)(hst:FW (Bs bk nm) i=A7 s){r c:Nat}(hr:r<s.rows.length)(hc:c<s.cols.toNat):(FK bk ns nm i r c).getD []=atD (Ch (Ck bk ns i) (bk i)) nm r c:=by
 unfold FK Jp atD;rw[Y5,hs,Xm hm hn hs,hst,AbM];dsimp only;rw[show(A7 s).rows.to=(BU s.rows.length).to from rfl,show(A7 s).cols.to=(BU s.cols.toNat).to from rfl,Hz hr,Hz hc];obtain rfl:=(BO hs).1;rw[ZY];rfl
theorem UV(hm:∀i,Aw (bk i)=true){ns:List (List UInt8)}{nm:List UInt8}(hn:nm∈ns)(hg:(Bs bk nm).gone=false){r c:Nat}(hr:(r:Int)<(Bs bk nm).rows)(hc:(c:Int)<(Bs bk nm).cols):El (Bs bk nm) (FK bk ns nm) r c=Jo (Bs bk nm) (Ch (Ck bk ns 0) (bk 0)) (Ch (Ck bk ns 1) (bk 1)) (Ch (Ck bk ns 2) (bk 2)) r c:=by
 have f:=λi=>W3 hm hn hg i r c;obtain⟨-,-,-,-,-,-,h1,h2,-⟩:=Kl hm nm;have a0:=(Dw hm nm).2;unfold El Jo;rcases e:(Bs bk nm).whole with _ | _ | k
 ·show DY _ _ _=DY _ _ _;rw[f 0,f 1,f 2];rfl
 ·obtain⟨s,hs,a1,k1,k2⟩:=h1 e;show((FK bk ns nm 1 r c).getD [],none)=(atD _ (Bs bk nm).name r c,none);rw[a0,U6 hm hn 1 hs a1 AdV AdV]
 ·obtain⟨s,hs,a1,k1,k2⟩:=h2 AdV;show((FK bk ns nm 2 r c).getD [],none)=(atD _ (Bs bk nm).name r c,none);rw[a0,U6 hm hn 2 hs a1 AdV AdV]
theorem Hf{α β:Type}{f g:α→List β}:∀{l:List α},(∀a∈l,f a=g a)→l.flatMap f=l.flatMap g
 | [],_=>rfl
 | a::l,h=>by rw[AbX,AbX,h a (Ab6 ..),Hf λb hb=>h b (Abk _ hb)]
theorem N9(hm:∀i,Aw (bk i)=true){ns:List (List UInt8)}{p:AF}(hp:p∈NX bk ns):BS bk ns p=Fm p (Ch (Ck bk ns 0) (bk 0)) (Ch (Ck bk ns 1) (bk 1)) (Ch (Ck bk ns 2) (bk 2))∧C1 bk ns p=Jj p (Ch (Ck bk ns 0) (bk 0)) (Ch (Ck bk ns 1) (bk 1)) (Ch (Ck bk ns 2) (bk 2)):=by
 obtain⟨nm,hn,rfl,hg⟩:=PR hp;have a0:=(Dw hm nm).2;have key:∀r∈List.range (Bs bk nm).rows.toNat,∀c∈List.range (Bs bk nm).cols.toNat,El (Bs bk nm) (FK bk ns nm) r c=Jo (Bs bk nm) (Ch (Ck bk ns 0) (bk 0)) (Ch (Ck bk ns 1) (bk 1)) (Ch (Ck bk ns 2) (bk 2)) r c:=λr hr c hc=>by
  have hr:=Acg.1 hr;have hc:=Acg.1 hc;exact UV hm hn hg AdV AdV
 constructor
 ·unfold BS Fm;rw[a0]
  congr 1
  refine Acq λr hr=>?_;unfold F0 Yp;refine Acq λc hc=>?_;rw[key r hr c hc]
 ·unfold C1 Jj AL;rw[a0]
  congr 1
  refine Hf λr hr=>?_;unfold Bi;refine Hf λc hc=>?_;unfold Cr Q9;rw[key r hr c hc,a0];rfl
theorem VA(bk:Fin 3→Ao):Hp bk=CN (bk 0) (bk 1) (bk 2):=by
 unfold Hp CN;by_cases h:∀i,Aw (bk i)=true
 ·rw[if_pos h,if_pos (show Aw (bk 0)=true∧Aw (bk 1)=true∧Aw (bk 2)=true from⟨h 0,h 1,h 2⟩),X6 h];have e:DS (bk 0) (bk 1) (bk 2)=(Am bk).map (Bs bk):=rfl;rw[e]
  split
  ·rfl
  ·unfold MQ;rw[e];have eo:E3 (bk 0) (((Am bk).map (Bs bk)).map AF.o)=Ch (Ck bk (Am bk) 0) (bk 0):=by rw[Jy h];rfl
   have ea:E3 (bk 1) (((Am bk).map (Bs bk)).map AF.a)=Ch (Ck bk (Am bk) 1) (bk 1):=by rw[Jy h];rfl
   have eb:E3 (bk 2) (((Am bk).map (Bs bk)).map AF.b)=Ch (Ck bk (Am bk) 2) (bk 2):=by rw[Jy h];rfl
   dsimp only;rw[eo,ea,eb,←R5]
   congr 1
   ·exact Acq λp hp=>(N9 h hp).1
   ·exact Hf λp hp=>(N9 h hp).2
 ·rw[if_neg h,if_neg];rintro⟨h0,h1,h2⟩;refine h λi=>?_
  match i with
  | 0=>exact h0
  | 1=>exact h1
  | 2=>exact h2
theorem E9(o a b:Ao)(vo va vb:Value)(w:World)(g:CT w)(ho:AR w vo o)(ha:AR w va a)(hb:AR w vb b):AN prog 15 [.agg ⟨[vo]⟩,.agg ⟨[va]⟩,.agg ⟨[vb]⟩] w (λv w'=>∃ov cv,v=.tuple #[.agg ⟨[ov]⟩,cv,.int .i64 (CN o a b).e]∧AR w' ov (CN o a b).b∧WC w' cv (CN o a b).c∧Ah w w'):=by
 have:=SY (λ| 0=>o | 1=>a | 2=>b) (λ| 0=>vo | 1=>va | 2=>vb) w g (λi=>by
  match i with
  | 0=>exact ho
  | 1=>exact ha
  | 2=>exact hb) Yc
 rw[VA] at this;exact this
end
end Go.Proofs.YtcjjcnecopnpcaaGreatDoor
