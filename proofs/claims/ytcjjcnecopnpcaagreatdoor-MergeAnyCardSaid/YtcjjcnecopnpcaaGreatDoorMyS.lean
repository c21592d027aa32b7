/-
  Joined by program out of the texts Mge9 MrgK MrgL.
-/
import Derived.Test.YtcjjcnecopnpcaaGreatDoorMyR
import Derived.Test.YtcjjcnecopnpcaaGreatDoorMyQ
import Derived.Test.YtcjjcnecopnpcaaGreatDoorMyK
import Derived.Test.YtcjjcnecopnpcaaGreatDoorMyM
namespace Go.Proofs.YtcjjcnecopnpcaaGreatDoor
open Tryz
open Go Go.E
def Bv(bk:Fin 3→Ao)(nm:List UInt8):A8:=AJ nm (Bq (bk 0) nm) (Bq (bk 1) nm) (Bq (bk 2) nm)
def Cs(bk:Fin 3→Ao)(ns:List (List UInt8)):Fin 3→List Br:=λi=>ns.flatMap λnm=>if (Bq (bk i) nm).isSome=true then[Gm (Bv bk nm) i] else[]
def OB(bk:Fin 3→Ao)(ns:List (List UInt8)):List A8:=ns.flatMap λnm=>HU (Bv bk nm)
section
variable {bk:Fin 3→Ao}
theorem Ua(ns:List (List UInt8))(nm:List UInt8):Cs bk (ns++[nm])=Pk bk (Cs bk ns) nm (Bv bk nm):=by
 funext i
 simp[Cs,Pk]
theorem Y2(ns:List (List UInt8))(nm:List UInt8):OB bk (ns++[nm])=OB bk ns++HU (Bv bk nm):=by simp[OB]
theorem Hz{α β:Type}{f:α→List β}(h:∀a,(f a).length≤1):∀l:List α,(l.flatMap f).length≤l.length
 | []=>by simp
 | a::l=>by
  have:=Hz h l;have:=h a;rw[AbV,Aa9,Abe];omega
theorem Pg(ns:List (List UInt8))(i:Fin 3):(Cs bk ns i).length≤ns.length:=Hz (λnm=>by split<;>simp) ns
theorem Ve(ns:List (List UInt8)):(OB bk ns).length≤ns.length:=Hz (λnm=>by unfold HU;split<;>simp) ns
end
theorem Rv(x:List UInt8):∀l,(Jw x l).length≤l.length+1
 | []=>by simp[Jw]
 | y::r=>by
  have:=Rv x r;rw[Jw]
  split
  ·simp only[Abe];omega
  ·split<;>simp
theorem N8:∀(l r:List (List UInt8)),(l.foldl (λr x=>Jw x r) r).length≤l.length+r.length
 | [],r=>by simp
 | x::l,r=>by
  have:=N8 l (Jw x r);have:=Rv x r;rw[AcM,Abe];omega
noncomputable def FK(bk:Fin 3→Ao)(ns:List (List UInt8))(nm:List UInt8):Fin 3→Nat→Nat→Option (List UInt8):=λi=>JB (bk i) (Cs bk ns i) nm
noncomputable def BX(bk:Fin 3→Ao)(ns:List (List UInt8))(p:A8):Af:=⟨p.name,p.cols,(List.range p.rows.toNat).map (FB p (FK bk ns p.name) p.cols.toNat)⟩
noncomputable def CD(bk:Fin 3→Ao)(ns:List (List UInt8))(p:A8):List HO:=AK p++(List.range p.rows.toNat).flatMap (Bh p (FK bk ns p.name) p.cols.toNat)
def Am(bk:Fin 3→Ao):List (List UInt8):=Ge (bk 0) (bk 1) (bk 2)
def IL(p:A8):Bool:=decide (24<p.rows)||decide (12<p.cols)
def Fw(ps:List A8):Bool:=ps.any IL||decide (5<ps.length)
noncomputable def H6(bk:Fin 3→Ao):Hu:=if ∀i,Ay (bk i)=true then(if Fw (OB bk (Am bk))=true then⟨[],[],4⟩ else⟨(OB bk (Am bk)).map (BX bk (Am bk)),(OB bk (Am bk)).flatMap (CD bk (Am bk)),0⟩) else⟨[],[],1⟩
def ZP(bk:Fin 3→Ao)(ns:List (List UInt8))(p:A8):Prop:=0≤p.rows∧0≤p.cols∧p.name.length≤1000000∧(∀i,∀s∈Cs bk ns i,s.May∧s.rows.new≤1000000∧s.cols.new≤1000000)∧∀i t s,Bq (bk i) p.name=some t→Er (Cs bk ns i) p.name=some s→s.rows.to.length=t.rows.length∧s.cols.to.length=t.cols.toNat
theorem Ui{bk:Fin 3→Ao}(hm:∀i,Ay (bk i)=true):(Am bk).length≤15:=by
 have h:=λi=>(Ch.1 (hm i)).1;have h0:=h 0;have h1:=h 1;have h2:=h 2;have:=N8 ((bk 0).map Af.name++(bk 1).map Af.name++(bk 2).map Af.name) [];simp only[Aa9,AbT,Ab3] at this;show(Iz _).length≤15;unfold Iz;omega
theorem Mh{bk:Fin 3→Ao}(hm:∀i,Ay (bk i)=true):∀t∈Am bk,t.length≤1000000:=λt ht=>by
 have key:∀i,t∈(bk i).map Af.name→t.length≤1000000:=λi h=>by
  obtain⟨s,hs,rfl⟩:=AbZ.1 h;have:=(Gd (Bn.1 ((Ch.1 (hm i)).2.1 s hs)).1).2.1;omega
 rcases((G1 (bk 0) (bk 1) (bk 2)).2 t).1 ht with h | h | h
 ·exact key 0 h
 ·exact key 1 h
 ·exact key 2 h
theorem WY{b:Ao}(hb:Ay b=true){ss:List Br}(hss:∀s∈ss,s.May){nm:List UInt8}{r c:Nat}{x:List UInt8}(h:JB b ss nm r c=some x):x.length≤1000000:=by
 unfold JB at h
 split at h
 ·rename_i t s h1 h2
  split at h
  ·rename_i i j h3 h4;obtain rfl:=Ab9 h;obtain⟨-,-,-,-,a0⟩:=Bn.1 (BP hb h1).1;have key:(t.rows.getD i []).getD j []=[]∨Ci ((t.rows.getD i []).getD j [])=true:=by
    rw[AaA,AaA]
    cases e1:t.rows[i]? with
    | none=>exact .inl rfl
    | some row=>
     rw[Ac6]
     cases e2:row[j]? with
     | none=>exact .inl rfl
     | some y=>exact .inr ((a0 row (Ab4 e1)).2 y (Ab4 e2))
   rcases key with e | e
   ·rw[e,Gc (.inl rfl)];simp
   ·have:=Kx (N0 (own:=nm) hss e);omega
  ·cases h
 ·cases h
theorem ON{bk:Fin 3→Ao}{ns:List (List UInt8)}{p:A8}(h:IL p=false):(CD bk ns p).length≤300:=by
 simp only[IL,Adk,decide_eq_false_iff_not] at h;have e1:∀r c,(Cy p (FK bk ns p.name) r c).length≤1:=λr c=>by unfold Cy;split<;>simp
 have e2:∀r,(Bh p (FK bk ns p.name) p.cols.toNat r).length≤p.cols.toNat:=λr=>flat_len e1 _;have e3:=KZ e2 p.rows.toNat;have e4:(AK p).length≤1:=by unfold AK;split<;>simp
 have:p.rows.toNat*p.cols.toNat≤24*12:=Adg Aeb Aeb;unfold CD;rw[Aa9];omega
theorem Ni{α β:Type}{f:α→List β}{m:Nat}:∀{l:List α},(∀a∈l,(f a).length≤m)→(l.flatMap f).length≤l.length*m
 | [],_=>by simp
 | a::l,h=>by
  have:=Ni (l:=l) λb hb=>h b (Ab5 _ hb);have:=h a (AbC ..);rw[AbV,Aa9,Abe,Acz];omega
theorem Lx{α:Type}{m lo:Nat}{T:TypeId}{R:EC α}{w:World}{v:Value}{l:List α}(h:A0 m lo T R w v l){b:Nat}(hb:b∈Ae v){cs:List Value}{T':TypeId}(hB:Blk w b cs T'):T'=T:=by
 obtain⟨_,_,_,o,_⟩:=h;exact Own.type o hb hB
theorem Wd{α:Type}{m lo:Nat}{T:TypeId}{R:EC α}{w:World}{v:Value}{l:List α}(h:A0 m lo T R w v l){b:Nat}(hb:b∈Ae v):∃cs,Blk w b cs T:=by
 obtain⟨_,_,_,⟨_,⟨e,_⟩ | ⟨g,cap,sp,e,hB,_⟩⟩,_⟩:=h
 ·rw[e] at hb;simp[Ae] at hb
 ·rw[e] at hb;simp[Ae] at hb;subst hb;exact⟨_,hB⟩
theorem Uq{w:World}{lo:Nat}{v:Value}{l:List (List UInt8)}(h:E.Own w lo 9 1 v l.length (l.map Aq))(hl:l.length≤1000000)(ht:∀t∈l,t.length≤1000000):Cw w v l:=by
 obtain⟨_,⟨rfl,e⟩ | ⟨g,cap,sp,rfl,hB,_⟩⟩:=h
 ·exact⟨hl,.inl ⟨rfl,AbA e⟩⟩
 ·refine⟨hl,.inr ⟨⟨g,0,none⟩,cap,rfl,λ_=>trivial,λi x hi=>⟨[Aq x],rfl,⟨rfl,ht x (Ab4 hi)⟩,λj u hj=>?_⟩⟩⟩
  match j,hj with
  | 0,hj=>
   obtain rfl:=Ab9 hj;rw[A5,A5];refine hB.cell ?_;have a0:=(Abo.1 hi).1;rw[show 0+i*1+0=i by omega,Ab6 AeH,AbR,hi];rfl
def UH(w:World)(cs:List Value)(s:Af):Prop:=∃rv,cs=Az s rv∧s.name.length≤1000000∧CS w rv s.rows
theorem VF{lo:Nat}{w:World}{v:Value}{l m:List HO}{css dss:List (List Value)}(h1:css.length=l.length)(h2:∀cs∈css,cs.length=6)(h3:∀(i:Nat) x cs,l[i]?=some x→css[i]?=some cs→cs=HQ x)(k1:dss.length=m.length)(k2:∀cs∈dss,cs.length=6)(k3:∀(i:Nat) x cs,m[i]?=some x→dss[i]?=some cs→cs=HQ x)(hO:E.Own w lo 49 6 v (l.length+m.length) (css.flatten++dss.flatten)):Fz lo w v (l++m):=by
 refine⟨css++dss,by simp[h1,k1],λcs hc=>?_,by simpa using hO,λi x cs hx hc=>?_⟩
 ·rcases Ab1.1 hc with hc | hc
  ·exact h2 cs hc
  ·exact k2 cs hc
 ·rcases AbW i l.length with hl | hl
  ·rw[Ab6 hl] at hx;rw[Ab6 Aeb] at hc;exact h3 i x cs hx hc
  ·rw[AbU hl] at hx;rw[AbU Aeb,h1] at hc;exact k3 _ x cs hx hc
theorem TD{m:List HO}{dss:List (List Value)}(k1:dss.length=m.length)(k3:∀(i:Nat) x cs,m[i]?=some x→dss[i]?=some cs→cs=HQ x):∀u∈dss.flatten,u.oneCell'=true:=λu hu=>by
 obtain⟨cs,hc,hu⟩:=List.mem_flatten.1 hu;obtain⟨i,hi⟩:=Ac7 hc;have hil:=(Abo.1 hi).1;obtain⟨x,hx⟩:∃x,m[i]?=some x:=⟨_,Aav Aeb⟩;rw[k3 i x cs hx hi] at hu;simp only[HQ,Ab0,AbH,or_false] at hu;rcases hu with rfl | rfl | rfl | rfl | rfl | rfl<;>rfl
theorem WF{V:List Nat}{lo:Nat}{w:World}{rv:Value}{s:Af}(h:Vw V lo w rv s.rows)(hn:s.name.length≤1000000)(hl:s.rows.length≤1000000)(hv:∀b∈Ae rv,b∉V):F4 V w λw'=>UH w' (Az s rv) s:=λ_w' x=>
 ⟨rv,rfl,hn,Ai.map (A0.list (ok:=Io) (SafO.step (U':=V) h x (λ_ h=>h) hv λ_ h=>.inl h) hl λ_ _ _=>trivial) (λ_ h=>h) λ_ _ _ _ h=>h.now⟩
def ZL(U:List Nat)(lo:Nat)(w:World)(v:Value)(b:Ao):Prop:=A0 3 lo 46 (λ_ w cs s=>F4 U w λw'=>UH w' cs s) w v b
def Xn(w:World)(v:Value)(l:List HO):Prop:=Ai 6 Io (λ_ _ cs c=>cs=HQ c) w v l
theorem FU{P:Program}[Tab P]{n:Nat}{Ev:Cp}{w:World}{fn:Func}{Φ:Value→World→Prop}{s u z b:Nat}{v x:Value}{t T':TypeId}{r:TRow}{L:List Value}(hf:fn.results=#[.cell s t,.tmp u,.tmp z])(hs:E.look Ev s=some (.pointer (some ⟨b,0,none⟩)))(hB:Blk w b L T')(ht:Tab.row P t=some r)(hr:Be r.desc=true)(hz:Nat.beq r.size L.length=true)
  (hu:E.look Ev u=some v) (hx:E.look Ev z=some x) (h:Φ (.tuple #[.agg ⟨L⟩,v,x]) w):QW (bodyPost P fn (Gr Φ)) .ret [] n Ev w:=
 QW.body (rs:=[.cell s t,.tmp u,.tmp z]) (vs:=[.agg ⟨L⟩,v,x]) hf ⟨⟨b,hs,CJ ht hr hB (AbM hz) (Dx.all L)⟩,hu,hx,trivial⟩ rfl h
set_option maxRecDepth 8000 in
set_option maxHeartbeats 8000000 in
theorem Ub(bk:Fin 3→Ao)(bv:Fin 3→Value)(w:World)(g:Dq w)(hb:∀i,Bu w (bv i) (bk i))(hg:(∀i,Ay (bk i)=true)→∀p∈OB bk (Am bk),ZP bk (Am bk) p) :
  A9 prog 15 [.agg ⟨[bv 0]⟩,.agg ⟨[bv 1]⟩,.agg ⟨[bv 2]⟩] w (λv w'=>∃ov cv,v=.tuple #[.agg ⟨[ov]⟩,cv,.int .i64 (H6 bk).e]∧Bu w' ov (H6 bk).b∧Xn w' cv (H6 bk).c∧Ah w w'):=by
 refine AG func15 ntmps15 ?_;apply CW.seq;apply CW.region;refine Sl ?_;refine C0 λA w1 dx c8 hA=>?_;replace hA:Blk w1 A [bv 0] 24:=hA;refine Sl ?_;refine C0 λB w2 dy bc hB=>?_;replace hB:Blk w2 B [bv 1] 24:=hB;refine Sl ?_;refine C0 λC w3 dz bj hC=>?_;replace hC:Blk w3 C [bv 2] 24:=hC;refine Sl ?_;refine B1 λR w4 e3 bl hR=>?_;replace hA:=((hA.ext bc).ext bj).ext bl;replace hB:=(hB.ext bj).ext bl;replace hC:=hC.ext bl;have ah:=((c8.trans bc).trans bj).trans bl;have e4:=c8.size;have e5:=bc.size;have e6:=bj.size;have e7:=hR.lt;clear c8 bc bj bl;refine Sl ?_;apply LW.nil;apply QW.then_n;have eb:∀i,Ay (bk i)=false→H6 bk=⟨[],[],1⟩:=λi h=>by
  rw[H6,if_neg];intro c9;rw[c9 i] at h;cases h
 have c0:=λw' (hx:Ah w w')=>MJ (bk 0) (bv 0) w' (g.ext hx) (Ac.ext (hb 0) hx);have c1:=λw' (hx:Ah w w')=>MJ (bk 1) (bv 1) w' (g.ext hx) (Ac.ext (hb 1) hx);have c2:=λw' (hx:Ah w w')=>MJ (bk 2) (bv 2) w' (g.ext hx) (Ac.ext (hb 2) hx);apply CW.seq;refine Sa ?_
 cases e0:Ay (bk 0) with
 | false=>
  rw[e0] at c0;refine Ap rfl rfl (c0 _ ah) ?_;rintro v w5 ⟨rfl,ao⟩;replace hR:=hR.ext ao;refine Sa ?_;refine AF λwz aa hR=>?_;refine Sa ?_;refine FU rfl rfl hR rfl rfl rfl rfl rfl ⟨.slice none 0 0,.slice none 0 0,?_,?_,?_,(ah.trans ao).step aa Aee⟩
  ·rw[eb 0 e0];rfl
  ·rw[eb 0 e0];exact Ai.nil
  ·rw[eb 0 e0];exact Ai.nil
 | true=>
 rw[e0] at c0;refine Ap rfl rfl (c0 _ ah) ?_;rintro v w5 ⟨rfl,ao⟩;replace hR:=hR.ext ao;replace hA:=hA.ext ao;replace hB:=hB.ext ao;replace hC:=hC.ext ao;have ai:=ah.trans ao;refine Sa ?_
 cases e1:Ay (bk 1) with
 | false=>
  rw[e1] at c1;refine Ap rfl rfl (c1 _ ai) ?_;rintro v w6 ⟨rfl,ap⟩;replace hR:=hR.ext ap;refine Sa ?_;refine AF λwz aa hR=>?_;refine Sa ?_;refine FU rfl rfl hR rfl rfl rfl rfl rfl ⟨.slice none 0 0,.slice none 0 0,?_,?_,?_,(ai.trans ap).step aa Aee⟩
  ·rw[eb 1 e1];rfl
  ·rw[eb 1 e1];exact Ai.nil
  ·rw[eb 1 e1];exact Ai.nil
 | true=>
 rw[e1] at c1;refine Ap rfl rfl (c1 _ ai) ?_;rintro v w6 ⟨rfl,ap⟩;replace hR:=hR.ext ap;replace hA:=hA.ext ap;replace hB:=hB.ext ap;replace hC:=hC.ext ap;have aj:=ai.trans ap;refine Sa ?_
 cases e2:Ay (bk 2) with
 | false=>
  rw[e2] at c2;refine Ap rfl rfl (c2 _ aj) ?_;rintro v w7 ⟨rfl,aq⟩;replace hR:=hR.ext aq;refine Sa ?_;refine AF λwz aa hR=>?_;refine Sa ?_;refine FU rfl rfl hR rfl rfl rfl rfl rfl ⟨.slice none 0 0,.slice none 0 0,?_,?_,?_,(aj.trans aq).step aa Aee⟩
  ·rw[eb 2 e2];rfl
  ·rw[eb 2 e2];exact Ai.nil
  ·rw[eb 2 e2];exact Ai.nil
 | true=>
 rw[e2] at c2;refine Ap rfl rfl (c2 _ aj) ?_;rintro v w7 ⟨rfl,aq⟩;have hm:∀i,Ay (bk i)=true:=λi=>by
  match i with
  | 0=>exact e0
  | 1=>exact e1
  | 2=>exact e2
 replace hR:=hR.ext aq;replace hA:=hA.ext aq;replace hB:=hB.ext aq;replace hC:=hC.ext aq;have ax:=aj.trans aq;have e8:=ax.size;have cy:=hR.lt;clear c0 c1 c2 ah ai aj ao ap aq eb;refine Sa ?_;refine C0 λS0 w8 cz bd be=>?_;replace be:Blk w8 S0 [bv 0,.slice none 0 0] 63:=be;replace hB:=hB.ext bd;replace hC:=hC.ext bd;refine Sa ?_;refine C0 λS1 w9 d0 bf bg=>?_;replace bg:Blk w9 S1 [bv 1,.slice none 0 0] 63:=bg;replace hC:=hC.ext bf;refine Sa ?_;refine C0 λS2 d5 d6 ad bh=>?_;replace bh:Blk d5 S2 [bv 2,.slice none 0 0] 63:=bh;refine Sa ?_;refine C0 λM ca e9 a8 hM=>?_;replace hM:Blk ca M [ptr S0,ptr S1,ptr S2,.slice none 0 0] 66:=hM;obtain⟨S,es0,es1,es2⟩:∃S:Fin 3→Nat,S 0=S0∧S 1=S1∧S 2=S2:=⟨λ| 0=>S0 | 1=>S1 | 2=>S2,rfl,rfl,rfl⟩;rw[←es0] at be hM;rw[←es1] at bg hM;rw[←es2] at bh hM;have z8:=bd.size;have z9:=bf.size;have z10:=ad.size;have z11:=a8.size;have y0:=be.lt;have y1:=bg.lt;have y2:=bh.lt;have bm:=(((ax.trans bd).trans bf).trans ad).trans a8;have hH:Gq (λ_=>True) w ca M S bk bv (λ_=>.slice none 0 0) (.slice none 0 0) (λ_=>[]) []:=by
  refine⟨bm,hb,hM,by omega,λi=>?_,λi=>?_,λi j d7=>?_,λi=>Tl.nil,A0.nil,λi j _ b hb=>by simp[Ae] at hb,λ_ _=>trivial⟩
  ·match i with
   | 0=>exact((be.ext bf).ext ad).ext a8
   | 1=>exact(bg.ext ad).ext a8
   | 2=>exact bh.ext a8
  ·match i with
   | 0=>omega
   | 1=>omega
   | 2=>omega
  ·match i,j,d7 with
   | 0,0,h=>exact absurd rfl h
   | 1,1,h=>exact absurd rfl h
   | 2,2,h=>exact absurd rfl h
   | 0,1,_=>omega
   | 0,2,_=>omega
   | 1,0,_=>omega
   | 1,2,_=>omega
   | 2,0,_=>omega
   | 2,1,_=>omega
 have bn:=(((hR.ext bd).ext bf).ext ad).ext a8;have nsl:=Ui hm;clear hA hB hC hR hM be bg bh bd bf ad a8 ax;subst es0 es1 es2;refine Sa ?_;refine Ap rfl rfl (Wi hH hm) ?_;rintro v cp ⟨hO,ay⟩;replace hO:E.Own cp ca.heap.size 9 1 v (Am bk).length ((Am bk).map Aq):=hO;obtain⟨np,nc,rfl⟩:=hO.slice;have cb:=hH.later ay;have az:=bn.ext ay;have hK:Gq (λw'=>Cw w' (.slice np (Am bk).length nc) (Am bk)∧Blk w' R [.slice none 0 0] 24) w cp M S bk bv (λ_=>.slice none 0 0) (.slice none 0 0) (λ_=>[]) []:=
  cb.keeps λw' x=>⟨Uq (hO.chg x (hH.far λb hb=>(hO.lt hb).1)) Aeb (Mh hm),az.chg x (cb.other az)⟩
 clear hH cb hO bn az;refine Sw ?_;refine CW.loop (ι:=Nat×(Fin 3→Value)×Value) (λx w'=>x.1≤(Am bk).length∧Gq (λw'=>Cw w' (.slice np (Am bk).length nc) (Am bk)∧Blk w' R [.slice none 0 0] 24) w w' M S bk bv x.2.1 x.2.2 (Cs bk ((Am bk).take x.1)) (OB bk ((Am bk).take x.1))) (λx=>[(6,.pointer (some ⟨R,0,none⟩)),(9,.pointer (some ⟨M,0,none⟩)),(10,.func (.func 29) ⟨[.pointer (some ⟨M,0,none⟩)]⟩ ⟨[]⟩),(49,.slice np (Am bk).length nc),(50,.int .i64 ((Am bk).length:Int)),(51,.int .i64 (x.1:Int))]) (λx=>(Am bk).length - x.1) (0,λ_=>.slice none 0 0,.slice none 0 0) ⟨by omega,hK⟩ Ib ?_;rintro⟨k,sv,out⟩ cq ⟨hk,hN⟩;dsimp only at hk hN;show CW _ _ _ _ _ [(6,.pointer (some ⟨R,0,none⟩)),(9,.pointer (some ⟨M,0,none⟩)),(10,.func (.func 29) ⟨[.pointer (some ⟨M,0,none⟩)]⟩ ⟨[]⟩),(49,.slice np (Am bk).length nc),(50,.int .i64 ((Am bk).length:Int)),(51,.int .i64 (k:Int))] _;obtain⟨bo,b0⟩:=hN.keep.now;refine Sw ?_;refine Av (λc1=>?_) λc1=>?_
 ·have c1:k<(Am bk).length:=by simp at c1;omega
  obtain⟨nm,cr⟩:∃nm,(Am bk)[k]?=some nm:=⟨_,Aav c1⟩;obtain⟨a,rfl,-,-,b1⟩:=AD.at bo cr;have l1:=λi=>Pg (bk:=bk) ((Am bk).take k) i;have l2:=Ve (bk:=bk) ((Am bk).take k);have l3:((Am bk).take k).length≤15:=by rw[Acj];omega
  refine Sw ?_;refine LW.call (fs:=[.pointer (some ⟨M,0,none⟩)]) (cs:=[]) rfl rfl rfl (U1 hN hm nm (λi=>by have:=l1 i;omega) Aeb) ?_;rintro v ar ⟨rfl,sv',out',hP⟩;refine Sw ?_;refine QW.again (k+1,sv',out') ⟨by show k+1≤_;omega,?_⟩ Ib (by show _ - (k+1)<_ - k;omega);show Gq _ _ _ _ _ _ _ sv' out' (Cs bk ((Am bk).take (k+1))) (OB bk ((Am bk).take (k+1)));rw[show(Am bk).take (k+1)=(Am bk).take k++[nm] by rw[AbO,cr];rfl,Ua,Y2];exact hP
 have c1:k=(Am bk).length:=by simp at c1;omega
 subst c1;rw[AbQ] at hN;have em:H6 bk=if Fw (OB bk (Am bk))=true then⟨[],[],4⟩ else⟨(OB bk (Am bk)).map (BX bk (Am bk)),(OB bk (Am bk)).flatMap (CD bk (Am bk)),0⟩:=by rw[H6,if_pos hm]
 have ak:=hg hm;have psl:(OB bk (Am bk)).length≤15:=by have:=Ve (bk:=bk) (Am bk);omega
 generalize OB bk (Am bk)=ps at hN em ak psl;have bp:=hN.top;have ae:=hN.ext;have d8:=ae.size;have d9:=b0.lt;have ea:w.heap.size≤R:=Aeb
 obtain⟨op,oc,rfl⟩:=A0.slice hN.made;have ab:Ai 5 Io (λ_ _ cs p=>cs=Ga S p) cq (.slice op ps.length oc) ps:=A0.list hN.made Aeb λ_ _ _=>trivial;have emade:∀p,∃pp,LP S p.whole=.pointer pp∧Ga S p=[Aq p.name,.int .i64 p.rows,.int .i64 p.cols,.pointer pp,.bool p.clash]:=λp=>by
  obtain⟨pp,e⟩:∃pp,LP S p.whole=.pointer pp:=by
   match p.whole with
   | 0=>exact⟨_,rfl⟩
   | 1=>exact⟨_,rfl⟩
   | _+2=>exact⟨_,rfl⟩
  exact⟨pp,e,by rw[Ga,e]⟩
 clear hK bo ay hg;refine Sw ?_;refine CW.loop (ι:=Nat) (λk w'=>k≤ps.length∧Ah cq w'∧∀p∈ps.take k,IL p=false) (λk=>[(6,.pointer (some ⟨R,0,none⟩)),(9,.pointer (some ⟨M,0,none⟩)),(62,.slice op ps.length oc),(63,.int .i64 (ps.length:Int)),(64,.int .i64 (k:Int))]) (λk=>ps.length - k) 0 ⟨by omega,Chg.refl _ _,by simp⟩ CT ?_;rintro k ar ⟨hk,a0,bi⟩;have af:=b0.ext a0;have da:=a0.size;refine Sw ?_;refine Av (λc1=>?_) λc1=>?_
 ·have c1:k<ps.length:=by simp at c1;omega
  obtain⟨p,hp⟩:∃p,ps[k]?=some p:=⟨_,Aav c1⟩;obtain⟨a,cs,rfl,-,-,rfl,b1⟩:=Ai.at ab hp;obtain⟨pp,-,emp⟩:=emade p;rw[emp] at b1;have bq:=λj u hj=>A2 a0 (b1 j u hj);have ag:=Ab4 hp;have br:ps.take (k+1)=ps.take k++[p]:=by rw[AbO,hp];rfl
  clear b1 ab;refine Sw ?_;refine B1 λX db dc a9 hX=>?_;refine Sa ?_;refine AF λbs cc hX=>?_;replace hX:Blk bs X [Aq p.name,.int .i64 p.rows,.int .i64 p.cols,.pointer pp,.bool p.clash] 70:=hX;have cd:=a9.size;have a1:Ah ar bs:=a9.step cc Aee;have a6:=af.ext a1;refine Sa ?_;by_cases h1:24<p.rows
  ·refine LW.know (t:=71) (c:=true) rfl Ae8 ?_;have hl:Fw ps=true:=by
    have:ps.any IL=true:=Ad4.2 ⟨p,ag,by simp[IL,h1]⟩;simp[Fw,this]
   refine Sa ?_;refine AF λwz aa a6=>?_;refine Sa ?_;refine FU rfl rfl a6 rfl rfl rfl rfl rfl ⟨.slice none 0 0,.slice none 0 0,?_,?_,?_,((ae.trans a0).trans a1).step aa Aee⟩
   ·rw[em,if_pos (hl)];rfl
   ·rw[em,if_pos (hl)];exact Ai.nil
   ·rw[em,if_pos (hl)];exact Ai.nil
  refine LW.know (t:=71) (c:=false) rfl Ae8 ?_;refine Sa ?_;refine Av (λc2=>?_) λc2=>?_
  ·have c2:12<p.cols:=by simpa using c2
   have hl:Fw ps=true:=by
    have:ps.any IL=true:=Ad4.2 ⟨p,ag,by simp[IL,c2]⟩;simp[Fw,this]
   refine Sa ?_;refine AF λwz aa a6=>?_;refine Sa ?_;refine FU rfl rfl a6 rfl rfl rfl rfl rfl ⟨.slice none 0 0,.slice none 0 0,?_,?_,?_,((ae.trans a0).trans a1).step aa Aee⟩
   ·rw[em,if_pos (hl)];rfl
   ·rw[em,if_pos (hl)];exact Ai.nil
   ·rw[em,if_pos (hl)];exact Ai.nil
  have c2:¬12<p.cols:=by simpa using c2
  refine Sa ?_;refine QW.again (k+1) ⟨by omega,a0.trans a1,λq hq=>?_⟩ CT Aeb;rw[br] at hq;rcases Ab1.1 hq with hq | hq
  ·exact bi q hq
  ·rw[Aah.1 hq];simp[IL,h1,c2]
 have c1:k=ps.length:=by simp at c1;omega
 subst c1;rw[AbQ] at bi;have b2:=bp.ext a0;refine Sa ?_;refine Av (λc3=>?_) λc3=>?_
 ·have c3:5<ps.length:=by simp at c3;omega
  have hl:Fw ps=true:=by simp[Fw,c3]
  refine Sa ?_;refine AF λwz aa af=>?_;refine Sa ?_;refine FU rfl rfl af rfl rfl rfl rfl rfl ⟨.slice none 0 0,.slice none 0 0,?_,?_,?_,(ae.trans a0).step aa Aee⟩
  ·rw[em,if_pos (hl)];rfl
  ·rw[em,if_pos (hl)];exact Ai.nil
  ·rw[em,if_pos (hl)];exact Ai.nil
 have c3:ps.length≤5:=by simp at c3;omega
 have hl:Fw ps=false:=by
  have:ps.any IL=false:=by
   rw[List.any_eq_false];intro q hq;simp[bi q hq]
  simp[Fw,this];omega
 rw[hl,if_neg Aej] at em;have b1:∀k,((ps.take k).flatMap (CD bk (Am bk))).length≤1500:=λk=>by
  have h1:=Ni (l:=ps.take k) (f:=CD bk (Am bk)) (m:=300) λp hp=>ON (bi p (Ad7 hp));have h2:(ps.take k).length≤5:=by rw[Acj];omega
  have h3:(ps.take k).length*300≤5*300:=Adj _ h2;omega
 have ac:=Ai.ext' (R':=λ_ _ cs p=>cs=Ga S p) ab a0 λ_ _ _ _ h=>h;have b3:=hN.later a0;have bt:=ae.trans a0;clear ab bp hN b0 ae a0;refine Sa ?_;refine B1 λQ db ec a9 hQ=>?_;have cd:=a9.size;have ed:=hQ.lt;have dd:=af.ext a9;have b2:=b3.top;have de:=b2.ext a9;refine Sw ?_;refine CW.loop (ι:=Nat×Value×Value) (λx w'=>x.1≤ps.length∧Ah ar w'∧Blk w' Q [x.2.1] 24∧ZL (R::Q::(Ae x.2.1++Ae x.2.2)) ar.heap.size w' x.2.1 ((ps.take x.1).map (BX bk (Am bk)))∧Fz ar.heap.size w' x.2.2 ((ps.take x.1).flatMap (CD bk (Am bk)))∧(ps.take x.1).length=x.1) (λx=>[(6,.pointer (some ⟨R,0,none⟩)),(9,.pointer (some ⟨M,0,none⟩)),(15,.pointer (some ⟨Q,0,none⟩)),(16,x.2.2),(88,.slice op ps.length oc),(89,.int .i64 (ps.length:Int)),(90,.int .i64 (x.1:Int))]) (λx=>ps.length - x.1) (0,.slice none 0 0,.slice none 0 0) ⟨by omega,a9,hQ,A0.nil,A0.nil,rfl⟩ Jv ?_;rintro⟨k,ov,cv⟩ bs ⟨hk,a1,al,a7,a3,etk⟩;dsimp only at hk al a7 a3 etk;show CW _ _ _ _ _ [(6,.pointer (some ⟨R,0,none⟩)),(9,.pointer (some ⟨M,0,none⟩)),(15,.pointer (some ⟨Q,0,none⟩)),(16,cv),(88,.slice op ps.length oc),(89,.int .i64 (ps.length:Int)),(90,.int .i64 (k:Int))] _;have df:=a1.size;have a6:=af.ext a1;have ce:=b2.ext a1;obtain⟨ovp,ovc,rfl⟩:=A0.slice a7;obtain⟨cvp,cvc,rfl⟩:=A0.slice a3;refine Sw ?_;refine Av (λc1=>?_) λc1=>?_
 ·have c1:k<ps.length:=by simp at c1;omega
  obtain⟨p,hp⟩:∃p,ps[k]?=some p:=⟨_,Aav c1⟩;obtain⟨a,cs,rfl,-,-,rfl,b4⟩:=Ai.at ac hp;have ag:=Ab4 hp;obtain⟨gr,gc,gn,gs,gf⟩:=ak p ag;have hw:=bi p ag;simp only[IL,Adk,decide_eq_false_iff_not] at hw;have b5:=b3.later a1;have ee:=b5.ext;have br:ps.take (k+1)=ps.take k++[p]:=by rw[AbO,hp];rfl
  have dg:(ps.take (k+1)).length=k+1:=by rw[br,Aa9,etk];rfl
  have c5:=λb (h:b∈Ae (Value.slice ovp ((ps.take k).map (BX bk (Am bk))).length ovc))=>A0.lt a7 h;have c6:=λb (h:b∈Ae (Value.slice cvp ((ps.take k).flatMap (CD bk (Am bk))).length cvc))=>A0.lt a3 h;have lQ:=al.lt;have lR:=a6.lt;have sl:=λi=>Pg (bk:=bk) (Am bk) i;obtain⟨pp,-,emp⟩:=emade p;have aw:=λw' (hx:Ah bs w')=>VD (w:=w') (p:=p) (F:=FK bk (Am bk) p.name) (R::Q::(Ae (.slice ovp ((ps.take k).map (BX bk (Am bk))).length ovc)++Ae (.slice cvp ((ps.take k).flatMap (CD bk (Am bk))).length cvc))) (λj hj=>by
    have hz:=hx.size;simp only[Ab0,Ab1] at hj;rcases hj with rfl | rfl | hj | hj
    ·omega
    ·omega
    ·have:=(c5 j hj).2;omega
    ·have:=(c6 j hj).2;omega) (ce.ext hx) p.rows.toNat p.cols.toNat Aeb Aeb Aeb Aeb gn (λi r c t h=>WY (hm i) (λs hs=>(gs i s hs).1) h) (λi w2 bc=>by
    have cf:=b5.later (hx.trans bc);rw[emp];exact Xd (bk i) (hm i) (S i) (bv i) (sv i) (Cs bk (Am bk) i) p.name p.rows p.cols pp p.clash w w2 g (cf.side i) (hb i) cf.ext ((cf.own i).list (by have:=sl i;omega)) (gs i) (gf i))
  rw[emp] at b4;have bq:=λj u hj=>A2 a1 (b4 j u hj);clear b4 ac b3 b5 hb ak em;refine Sw ?_;refine B1 λX dh dc bu hX=>?_;refine Sa ?_;refine AF λbw cg hX=>?_;replace hX:Blk bw X [Aq p.name,.int .i64 p.rows,.int .i64 p.cols,.pointer pp,.bool p.clash] 70:=hX;have di:=bu.size;have b6:Ah bs bw:=bu.step cg Aee;have am:=aw bw b6;rw[emp] at am;refine Sa ?_;refine Ap rfl rfl am ?_;rintro v ct ⟨rv,cw,rfl,c7,ci,bx⟩;obtain⟨rvp,rvc,rfl⟩:=A0.slice c7;obtain⟨cwp,cwc,rfl⟩:=A0.slice ci;have dj:=b6.size;have dk:=bx.size;refine Sa ?_;refine B1 λHh ef eg bz hH=>?_;refine Sa ?_;refine AF λb7 cj hH=>?_;replace hH:Blk b7 Hh (Az (BX bk (Am bk) p) (.slice rvp ((List.range p.rows.toNat).map (FB p (FK bk (Am bk) p.name) p.cols.toNat)).length rvc)) 46:=hH;have dl:=bz.size;have a4:Ah ct b7:=bz.step cj Aee;have dm:=a4.size;have a2:=(b6.trans bx).trans a4;have ck:=al.ext a2;have cl:F4 (R::Q::(Ae (.slice ovp ((ps.take k).map (BX bk (Am bk))).length ovc)++Ae (.slice cvp ((ps.take k).flatMap (CD bk (Am bk))).length cvc))) ct λw'=>UH w' (Az (BX bk (Am bk) p) (.slice rvp ((List.range p.rows.toNat).map (FB p (FK bk (Am bk) p.name) p.cols.toNat)).length rvc)) (BX bk (Am bk) p):=by
   refine WF (lo:=bw.heap.size) c7 gn (by show((List.range p.rows.toNat).map _).length≤_;simp;omega) λb hb hm=>?_;have:=(A0.lt c7 hb).1;simp only[Ab0,Ab1] at hm;rcases hm with rfl | rfl | hm | hm
   ·omega
   ·omega
   ·have:=(c5 b hm).2;omega
   ·have:=(c6 b hm).2;omega
  obtain⟨css,g1,g2,g3,g4⟩:=A0.ext' (R':=λ_ w cs s=>F4 (R::Q::(Ae (.slice ovp ((ps.take k).map (BX bk (Am bk))).length ovc)++Ae (.slice cvp ((ps.take k).flatMap (CD bk (Am bk))).length cvc))) w λw'=>UH w' cs s) a7 a2 λ_ _ _ _ h=>h.ext a2;have dn:Fz ar.heap.size b7 (.slice cvp ((ps.take k).flatMap (CD bk (Am bk))).length cvc) ((ps.take k).flatMap (CD bk (Am bk))):=A0.ext' a3 a2 λ_ _ _ _ h=>h;have cu:Fz bw.heap.size b7 (.slice cwp (CD bk (Am bk) p).length cwc) (CD bk (Am bk) p):=A0.ext' ci a4 λ_ _ _ _ h=>h;have apart:∀b∈Ae (.slice ovp ((ps.take k).map (BX bk (Am bk))).length ovc),b∉Ae (.slice cvp ((ps.take k).flatMap (CD bk (Am bk))).length cvc):=λb h1 h2=>by
   obtain⟨cs,hB⟩:=Wd a3 h2;exact absurd (Lx a7 h1 hB) Aef
  have nQ:Q∉Ae (.slice ovp ((ps.take k).map (BX bk (Am bk))).length ovc)∧Q∉Ae (.slice cvp ((ps.take k).flatMap (CD bk (Am bk))).length cvc):=⟨λh=>absurd (Lx a7 h al) Aef,λh=>absurd (Lx a3 h al) Aef⟩;clear a3 c7 ci hX aw am bq;refine Sa ?_;refine CR λDn dp eh au hD=>?_;replace hD:Blk dp Dn (Az (BX bk (Am bk) p) (.slice rvp ((List.range p.rows.toNat).map (FB p (FK bk (Am bk) p.name) p.cols.toNat)).length rvc)) 46:=hD;have dq:=au.size;refine Sa ?_;refine LW.append (lo:=ar.heap.size) (k:=((ps.take k).map (BX bk (Am bk))).length) rfl rfl rfl rfl rfl rfl (g3.ext au) Aeb hD rfl rfl rfl (by rw[AbT,etk];show(k+1)*49≤140737488355328;omega) rfl ?_;intro v23 ei b8 c4 b9;have dr:=b8.size;have av:=(ck.ext au).chg b8 nQ.1;obtain⟨vp,vc,rfl⟩:=c4.slice;refine Sa ?_;refine Cu λcx ba av=>?_;have dt:=ba.size;replace av:Blk cx Q [.slice vp (((ps.take k).map (BX bk (Am bk))).length+1) vc] 24:=av;have a5:Chg (Q::Ae (.slice ovp ((ps.take k).map (BX bk (Am bk))).length ovc)) b7 cx:=(Chg.trans (Chg.trans au b8) ba).mono λb hb _=>by
   simp only[AbN,Ab1,Aah] at hb;rcases hb with hb | rfl
   ·exact Ab5 _ hb
   ·exact AbC ..
  obtain⟨dss,d1,d2,d3,d4⟩:=A0.chg (R':=λ_ _ cs c=>cs=HQ c) dn a5 (λb hb hm=>by
   rcases Ab0.1 hm with rfl | hm
   ·exact nQ.2 hb
   ·exact apart b hm hb) λ_ _ _ _ h=>h
  obtain⟨ess,f1,f2,f3,f4⟩:=A0.chg (R':=λ_ _ cs c=>cs=HQ c) cu a5 (λb hb hm=>by
   have:=(A0.lt cu hb).1;rcases Ab0.1 hm with rfl | hm
   ·omega
   ·have:=(c5 b hm).2;omega) λ_ _ _ _ h=>h
  have l1:=b1 k;have l2:(CD bk (Am bk) p).length≤300:=ON (bi p ag);refine Sa ?_;refine LW.append_any (lo:=ar.heap.size) (k:=((ps.take k).flatMap (CD bk (Am bk))).length) (m:=(CD bk (Am bk) p).length) (news:=ess.flatten) rfl rfl rfl rfl rfl rfl d3 Aeb f3.1 ?_ (TD f1 f4) (by show(_+_)*81≤140737488355328;omega) rfl ?_
  ·obtain⟨ej,⟨e,e'⟩ | ⟨gg,cap,sp,e,du,_⟩⟩:=f3
   ·exact .inl ⟨(AcN e).1,e'⟩
   ·exact .inr ⟨⟨gg,0,none⟩,(AcN e).1,λj u hj=>by
     rw[A5];refine du.cell ?_;rw[AbP,Ab6 (Abo.1 hj).1];exact hj⟩
  intro v25 dv an cm cn;have dw:=an.size;refine Sa ?_;have aa:Chg (R::Q::(Ae (.slice ovp ((ps.take k).map (BX bk (Am bk))).length ovc)++Ae (.slice cvp ((ps.take k).flatMap (CD bk (Am bk))).length cvc))) b7 dv:=(Chg.trans a5 an).mono λb hb _=>by
   simp only[Ab1,Ab0] at hb ⊢;rcases hb with (hb | hb) | hb
   ·exact .inr (.inl hb)
   ·exact .inr (.inr (.inl hb))
   ·exact .inr (.inr (.inr hb))
  refine QW.again (k+1,.slice vp (((ps.take k).map (BX bk (Am bk))).length+1) vc,v25) ⟨by show k+1≤_;omega,?_,av.chg an nQ.2,?_,?_,dg⟩ Jv (by show _ - (k+1)<_ - k;omega)
  ·refine(a1.trans a2).step (Chg.trans a5 an) λb hb=>?_;simp only[Ab1,Ab0] at hb;rcases hb with (rfl | hb) | hb
   ·omega
   ·exact(c5 b hb).1
   ·exact(c6 b hb).1
  ·have hu:∀j,j∈R::Q::(Ae (.slice vp (((ps.take k).map (BX bk (Am bk))).length+1) vc)++Ae v25)→j∈R::Q::(Ae (.slice ovp ((ps.take k).map (BX bk (Am bk))).length ovc)++Ae (.slice cvp ((ps.take k).flatMap (CD bk (Am bk))).length cvc))∨b7.heap.size≤j:=λj hj=>by
    simp only[Ab0,Ab1] at hj ⊢;rcases hj with hj | hj | hj | hj
    ·exact .inl (.inl hj)
    ·exact .inl (.inr (.inl hj))
    ·rcases b9 j hj with h | h
     ·exact .inl (.inr (.inr (.inl h)))
     ·exact .inr Aeb
    ·rcases cn j hj with h | h
     ·exact .inl (.inr (.inr (.inr h)))
     ·exact .inr Aeb
   show ZL _ _ _ (.slice vp (((ps.take k).map (BX bk (Am bk))).length+1) vc) ((ps.take (k+1)).map (BX bk (Am bk)));rw[br,AbX];refine A0.snoc g1 g2 ((c4.chg ba λb hb hm=>?_).chg an λb hb hm=>?_) rfl (λi y ds hi hd=>(g4 i y ds hi hd).step aa hu) ((cl.ext a4).step aa hu)
   ·simp only[Aah] at hm;subst hm;rcases b9 _ hb with h | h
    ·exact nQ.1 h
    ·omega
   ·rcases b9 _ hb with h | h
    ·exact apart b h hm
    ·have:=(c6 b hm).2;omega
  ·show Fz _ _ _ ((ps.take (k+1)).flatMap (CD bk (Am bk)));rw[br,Acb,Acx];exact VF d1 d2 d4 f1 f2 f4 cm
 ·have c1:k=ps.length:=by simp at c1;omega
  subst c1;have e1:ps.map (BX bk (Am bk))=(ps.take ps.length).map (BX bk (Am bk)):=by rw[AbQ]
  have e2:ps.flatMap (CD bk (Am bk))=(ps.take ps.length).flatMap (CD bk (Am bk)):=by rw[AbQ]
  rw[e1,e2] at em;have lcf:((ps.take ps.length).flatMap (CD bk (Am bk))).length≤1000000:=by
   have:=b1 ps.length;omega
  refine Sa ?_;refine AF λdh bb a6=>?_;have nR:R<ar.heap.size:=af.lt;refine Sa ?_;refine FU rfl rfl a6 rfl rfl rfl rfl rfl ⟨.slice ovp ((ps.take ps.length).map (BX bk (Am bk))).length ovc,.slice cvp ((ps.take ps.length).flatMap (CD bk (Am bk))).length cvc,?_,?_,?_,(bt.trans a1).step bb Aee⟩
  ·rw[em]
  ·rw[em];have co:=SafO.step (U':=[]) a7 bb (λj hj=>by simp only[Aah] at hj;subst hj;exact AbC ..) (λb hb hm=>by simp only[Aah] at hm;subst hm;have:=(A0.lt a7 hb).1;omega) (λj hj=>by simp at hj);exact Ai.map (A0.list (ok:=Io) co (by rw[AbT,etk];omega) λ_ _ _=>trivial) (λ_ h=>h) λ_ _ _ _ h=>h.now
  ·rw[em];exact A0.list (A0.chg a3 bb (λb hb hm=>by simp only[Aah] at hm;subst hm;have:=(A0.lt a3 hb).1;omega) λ_ _ _ _ h=>h) lcf λ_ _ _=>trivial
def O4(s:Br)(t:Af):Prop:=s.rows.to.length=t.rows.length∧s.cols.to.length=t.cols.toNat
def Xq(s:Br):Prop:=s.May∧s.rows.new≤1000000∧s.cols.new≤1000000
theorem Pz(n:Nat):(BL n).to.length=n:=by simp[BL,BE]
theorem DR{t:Af}(h:A6 t=true):Xq (A3 t)∧O4 (A3 t) t:=by
 obtain⟨_,h2,h3,h4,_⟩:=Bn.1 h;refine⟨⟨⟨Om Aeb,Om Aeb⟩,?_,?_⟩,Pz _,Pz _⟩
 ·show((t.rows.length:Nat):Int)≤_;omega
 ·show((t.cols.toNat:Nat):Int)≤_;omega
theorem Yq{o a:Af}(ho:A6 o=true)(ha:A6 a=true):Xq (Ag o a)∧O4 (Ag o a) o:=by
 obtain⟨_,h2,h3,h4,_⟩:=Bn.1 ha;refine⟨⟨ER ho ha,?_,?_⟩,C5 o a,C4 o a _⟩
 ·show((a.rows.length:Nat):Int)≤_;omega
 ·show((a.cols.toNat:Nat):Int)≤_;omega
theorem Qq(nm:List UInt8):Xq (E6 nm):=⟨⟨rfl,rfl⟩,by show(0:Int)≤_;omega,by show(0:Int)≤_;omega⟩
theorem UZ{a b:AN}(ha:EK a=true)(hb:EK b=true)(hl:b.to.length=a.to.length)(h1:a.to.length≤200)(h2:a.new≤200)(h3:b.new≤200):EK ⟨(AB a b).o,(AB a b).now⟩=true∧EK ⟨(AB a b).x,(AB a b).now⟩=true∧EK ⟨(AB a b).y,(AB a b).now⟩=true∧(AB a b).now≤1000000:=by
 obtain⟨a0,_,_,ra⟩:=B5 ha;obtain⟨b0,_,_,rb⟩:=B5 hb;exact XO ha hb hl h1 h2 h3 ra rb a0 b0
theorem Yr{o a b:Af}(nm:List UInt8)(ho:A6 o=true)(ha:A6 a=true)(hb:A6 b=true):(Xq (Bd nm o a b).o∧O4 (Bd nm o a b).o o)∧(Xq (Bd nm o a b).a∧O4 (Bd nm o a b).a a)∧Xq (Bd nm o a b).b∧O4 (Bd nm o a b).b b:=by
 obtain⟨m1,m2⟩:=ER ho ha;obtain⟨m3,m4⟩:=ER ho hb;obtain⟨s1,s2,s3,s4⟩:=HJ ho ha;obtain⟨t1,t2,t3,t4⟩:=HJ ho hb;have elr:(Ag o b).rows.to.length=(Ag o a).rows.to.length:=by
  show(Bb o b).length=(Bb o a).length;rw[C5,C5]
 have elc:(Ag o b).cols.to.length=(Ag o a).cols.to.length:=by
  show(D3 o b (Bb o b)).length=(D3 o a (Bb o a)).length;rw[C4,C4]
 obtain⟨r1,r2,r3,r4⟩:=UZ m1 m3 elr s1 s3 t3;obtain⟨c1,c2,c3,c4⟩:=UZ m2 m4 elc s2 s4 t4;obtain⟨lr1,lr2,lr3⟩:=DB (Ag o a).rows (Ag o b).rows ((Ag o a).rows.to.length+1);obtain⟨lc1,lc2,lc3⟩:=DB (Ag o a).cols (Ag o b).cols ((Ag o a).cols.to.length+1);rw[←AB] at lr1 lr2 lr3 lc1 lc2 lc3;have kr:(((AB (Ag o a).rows (Ag o b).rows).now:Nat):Int)≤1000000:=Aeb
 have kc:(((AB (Ag o a).cols (Ag o b).cols).now:Nat):Int)≤1000000:=Aeb
 refine⟨⟨⟨⟨r1,c1⟩,kr,kc⟩,lr1.trans (C5 o a),lc1.trans (C4 o a _)⟩,⟨⟨⟨r2,c2⟩,kr,kc⟩,?_,?_⟩,⟨⟨r3,c3⟩,kr,kc⟩,?_,?_⟩
 ·refine lr2.trans ?_;show((a.rows.length:Nat):Int).toNat=_;omega
 ·refine lc2.trans ?_;show((a.cols.toNat:Nat):Int).toNat=_;omega
 ·refine lr3.trans ?_;show((b.rows.length:Nat):Int).toNat=_;omega
 ·refine lc3.trans ?_;show((b.cols.toNat:Nat):Int).toNat=_;omega
section
variable {bk:Fin 3→Ao}
theorem Hq(hm:∀i,Ay (bk i)=true)(nm:List UInt8):∀i t,Bq (bk i) nm=some t→A6 t=true∧t.name=nm:=λi _t h=>BP (hm i) h
theorem D6(hm:∀i,Ay (bk i)=true)(nm:List UInt8):(∀i,(Gm (Bv bk nm) i).sheet=nm)∧(Bv bk nm).name=nm:=by
 obtain⟨h1,h2,h3,h4⟩:=G5 (nm:=nm) (o:=Bq (bk 0) nm) (x:=Bq (bk 1) nm) (y:=Bq (bk 2) nm) (λs h=>(Hq hm nm 0 s h).2) (λs h=>(Hq hm nm 1 s h).2) (λs h=>(Hq hm nm 2 s h).2);refine⟨λi=>?_,h4⟩
 match i with
 | 0=>exact h1
 | 1=>exact h2
 | 2=>exact h3
def Tw(o a b:Option Af)(p:A8):Prop:=0≤p.rows∧0≤p.cols∧(∀t,o=some t→Xq p.o∧(p.gone=false→O4 p.o t))∧(∀t,a=some t→Xq p.a∧(p.gone=false→O4 p.a t))∧(∀t,b=some t→Xq p.b∧(p.gone=false→O4 p.b t))∧(p.gone=true→p.rows=0∧p.cols=0)∧
 (p.whole=1→∃s,a=some s∧p.a=A3 s∧p.rows=s.rows.length∧p.cols=s.cols)∧(2≤p.whole→∃s,b=some s∧p.b=A3 s∧p.rows=s.rows.length∧p.cols=s.cols)∧(p.gone=false→(∀t,o=some t→p.o.gone=false)∧(∀t,a=some t→p.a.gone=false)∧∀t,b=some t→p.b.gone=false)
theorem PX(nm:List UInt8)(o a b:Option Af):Tw o a b (Es nm):=
 ⟨AcV _,AcV _,λ_ _=>⟨Qq nm,λh=>Ae0⟩,λ_ _=>⟨Qq nm,λh=>Ae0⟩,λ_ _=>⟨Qq nm,λh=>Ae0⟩,λ_=>⟨rfl,rfl⟩,λh=>Ae0,λh=>absurd h (by show ¬2≤0;omega),λh=>Ae0⟩
theorem Yz{nm:List UInt8}{o a b:Option Af}(ho:∀t,o=some t→A6 t=true)(ha:∀t,a=some t→A6 t=true)(hb:∀t,b=some t→A6 t=true):Tw o a b (AJ nm o a b):=by
 have a0:∀t,A6 t=true→∀u,o=some u→(Xq (Ys nm o t)∧O4 (Ys nm o t) u)∧(Ys nm o t).gone=false:=λt ht u hu=>by
  subst hu;exact⟨Yq (ho u rfl) ht,rfl⟩
 have a1:∀t,A6 t=true→0≤t.cols:=λt ht=>(Bn.1 ht).2.1
 cases a with
 | none=>
  cases b with
  | none=>exact PX nm _ _ _
  | some t=>
   have ht:=hb t rfl;rw[K6]
   split
   ·exact PX nm _ _ _
   ·exact⟨AcK _,a1 t ht,λu hu=>⟨(a0 t ht u hu).1.1,λ_=>(a0 t ht u hu).1.2⟩,λ_ h=>Ae0,λu hu=>(by cases hu;exact⟨(DR ht).1,λ_=>(DR ht).2⟩),λh=>Ae0,λh=>Ae0,λ_=>⟨t,rfl,rfl,rfl,rfl⟩,λ_=>⟨λu hu=>(a0 t ht u hu).2,λ_ h=>Ae0,λ_ _=>rfl⟩⟩
 | some s=>
  have hs:=ha s rfl
  cases b with
  | none=>
   rw[K7]
   split
   ·exact PX nm _ _ _
   ·exact⟨AcK _,a1 s hs,λu hu=>⟨(a0 s hs u hu).1.1,λ_=>(a0 s hs u hu).1.2⟩,λu hu=>AeJ,λ_ h=>Ae0,λh=>Ae0,λ_=>⟨s,rfl,rfl,rfl,rfl⟩,λh=>absurd h (by show ¬2≤1;omega),λ_=>⟨λu hu=>(a0 s hs u hu).2,λ_ _=>rfl,λ_ h=>Ae0⟩⟩
  | some t=>
   have ht:=hb t rfl;rw[I5]
   split
   ·rename_i e;subst e;exact⟨AcK _,a1 s hs,λu hu=>⟨(a0 s hs u hu).1.1,λ_=>(a0 s hs u hu).1.2⟩,λu hu=>AeJ,λu hu=>AeJ,λh=>Ae0,λh=>Ae0,λh=>absurd h (by show ¬2≤0;omega),λ_=>⟨λu hu=>(a0 s hs u hu).2,λ_ _=>rfl,λ_ _=>rfl⟩⟩
   ·cases o with
    | none=>exact⟨AcK _,a1 s hs,λ_ h=>Ae0,λu hu=>AeJ,λu hu=>(by cases hu;exact⟨(DR ht).1,λ_=>(DR ht).2⟩),λh=>Ae0,λ_=>⟨s,rfl,rfl,rfl,rfl⟩,λh=>absurd h (by show ¬2≤1;omega),λ_=>⟨λ_ h=>Ae0,λ_ _=>rfl,λ_ _=>rfl⟩⟩
    | some u=>
     obtain⟨h1,h2,h3⟩:=Yr nm (ho u rfl) hs ht;exact⟨AcK _,AcK _,λv hv=>(by cases hv;exact⟨h1.1,λ_=>h1.2⟩),λv hv=>(by cases hv;exact⟨h2.1,λ_=>h2.2⟩),λv hv=>(by cases hv;exact⟨h3.1,λ_=>h3.2⟩),λh=>Ae0,λh=>Ae0,λh=>absurd h (by show ¬2≤0;omega),λ_=>⟨λ_ _=>rfl,λ_ _=>rfl,λ_ _=>rfl⟩⟩
theorem K8(hm:∀i,Ay (bk i)=true)(nm:List UInt8):Tw (Bq (bk 0) nm) (Bq (bk 1) nm) (Bq (bk 2) nm) (Bv bk nm):=
 Yz (λt h=>(Hq hm nm 0 t h).1) (λt h=>(Hq hm nm 1 t h).1) (λt h=>(Hq hm nm 2 t h).1)
theorem QA(hm:∀i,Ay (bk i)=true)(nm:List UInt8)(i:Fin 3)(t:Af)(h:Bq (bk i) nm=some t):Xq (Gm (Bv bk nm) i)∧((Bv bk nm).gone=false→O4 (Gm (Bv bk nm) i) t∧(Gm (Bv bk nm) i).gone=false):=by
 obtain⟨-,-,h0,h1,h2,-,-,-,hg⟩:=K8 hm nm
 match i,h with
 | 0,h=>exact⟨(h0 t h).1,λe=>⟨(h0 t h).2 e,(hg e).1 t h⟩⟩
 | 1,h=>exact⟨(h1 t h).1,λe=>⟨(h1 t h).2 e,(hg e).2.1 t h⟩⟩
 | 2,h=>exact⟨(h2 t h).1,λe=>⟨(h2 t h).2 e,(hg e).2.2 t h⟩⟩
theorem Q0{ns:List (List UInt8)}{p:A8}(h:p∈OB bk ns):∃nm∈ns,p=Bv bk nm∧p.gone=false:=by
 obtain⟨nm,hn,hp⟩:=Ad5.1 h;unfold HU at hp
 split at hp
 ·cases hp
 ·rename_i e;obtain rfl:=Aah.1 hp;exact⟨nm,hn,rfl,by simpa using e⟩
theorem Ph{ns:List (List UInt8)}{i:Fin 3}{s:Br}(h:s∈Cs bk ns i):∃nm∈ns,∃t,Bq (bk i) nm=some t∧s=Gm (Bv bk nm) i:=by
 obtain⟨nm,hn,hp⟩:=Ad5.1 h
 split at hp
 ·rename_i e;obtain⟨t,ht⟩:=Option.isSome_iff_exists.1 e;exact⟨nm,hn,t,ht,Aah.1 hp⟩
 ·cases hp
theorem XK(hm:∀i,Ay (bk i)=true){ns:List (List UInt8)}{i:Fin 3}{nm:List UInt8}{t:Af}(hn:nm∈ns)(ht:Bq (bk i) nm=some t):Er (Cs bk ns i) nm=some (Gm (Bv bk nm) i):=by
 have a0:Gm (Bv bk nm) i∈Cs bk ns i:=Ad5.2 ⟨nm,hn,by rw[if_pos (by rw[ht];rfl)];exact Aah.2 rfl⟩
 cases e:Er (Cs bk ns i) nm with
 | none=>
  exfalso;unfold Er at e;rw[List.find?_eq_none] at e;have:=e _ a0;rw[(D6 hm nm).1 i] at this
  simp at this
 | some s=>
  obtain⟨h1,h2⟩:=GP e;obtain⟨nm',-,t',-,rfl⟩:=Ph h1;rw[(D6 hm nm').1 i] at h2;rw[h2]
theorem Y1(hm:∀i,Ay (bk i)=true):∀p∈OB bk (Am bk),ZP bk (Am bk) p:=λp hp=>by
 obtain⟨nm,hn,rfl,hg⟩:=Q0 hp;obtain⟨h1,h2,-⟩:=K8 hm nm;refine⟨h1,h2,?_,λi s hs=>?_,λi t s ht hs=>?_⟩
 ·rw[(D6 hm nm).2];exact Mh hm nm hn
 ·obtain⟨nm',-,t,ht,rfl⟩:=Ph hs;exact(QA hm nm' i t ht).1
 ·rw[(D6 hm nm).2] at ht hs;rw[XK hm hn ht] at hs;obtain rfl:=Ab9 hs;exact((QA hm nm i t ht).2 hg).1
end
theorem Aaj(ss:List Br)(b:Ao)(nm:List UInt8):O2 (Cn ss b) nm=O2 b nm:=by
 unfold O2 Cn;rw[List.findIdx?_map];rfl
theorem YK(ss:List Br)(b:Ao)(nm:List UInt8):Bq (Cn ss b) nm=(Bq b nm).map (RN ss):=by
 unfold Bq;rw[Aaj]
 cases O2 b nm with
 | none=>rfl
 | some i=>
  show(Cn ss b)[i]?=Option.map (RN ss) b[i]?;rw[Cn,AbR]
theorem ZV(ss:List Br)(t:Af)(i j:Nat):(((RN ss t).rows.getD i []).getD j [])=DJ t.name ss ((t.rows.getD i []).getD j []):=by
 have hz:DJ t.name ss []=[]:=Gc (.inl rfl);show((t.rows.map (N4 t.name ss)).getD i []).getD j []=_;rw[AaA,AaA,AaA,AaA,AbR]
 cases t.rows[i]? with
 | none=>simp[hz]
 | some row=>
  simp only[AbG,Ac6,N4,AbR]
  cases row[j]? with
  | none=>simp[hz]
  | some y=>simp
section
variable {bk:Fin 3→Ao}
theorem Sn(ns:List (List UInt8)):OB bk ns=E8 (ns.map (Bv bk)):=by
 induction ns with
 | nil=>rfl
 | cons nm ns ih=>
  show HU (Bv bk nm)++OB bk ns=_;rw[ih,Ach];unfold HU E8;rw[List.filter_cons];cases(Bv bk nm).gone<;>rfl
theorem JH(hm:∀i,Ay (bk i)=true)(ns:List (List UInt8))(i:Fin 3):Cs bk ns i=Ml (bk i) ((ns.map (Bv bk)).map λP=>Gm P i):=by
 induction ns with
 | nil=>rfl
 | cons nm ns ih=>
  show(if (Bq (bk i) nm).isSome=true then[Gm (Bv bk nm) i] else[])++Cs bk ns i=_;rw[ih,Ach,Ach];unfold Ml;rw[List.filter_cons,(D6 hm nm).1 i,←JW];cases(Bq (bk i) nm).isSome<;>rfl
theorem Ya(hm:∀i,Ay (bk i)=true)(ns:List (List UInt8)):Fw (OB bk ns)=Ix (ns.map (Bv bk)):=by
 unfold Fw Ix;rw[←Sn]
 congr 1
 rw[AcL,Ad4,Ad4];constructor
 ·rintro⟨p,hp,hw⟩;obtain⟨nm,hn,rfl,-⟩:=Q0 hp;exact⟨_,AbZ.2 ⟨nm,hn,rfl⟩,hw⟩
 ·rintro⟨p,hp,hw⟩;obtain⟨nm,hn,rfl⟩:=AbZ.1 hp;refine⟨Bv bk nm,?_,hw⟩;refine Ad5.2 ⟨nm,hn,?_⟩;unfold HU
  cases e:(Bv bk nm).gone with
  | false=>simp
  | true=>
   exfalso;obtain⟨-,-,-,-,-,h,-⟩:=K8 hm nm;obtain⟨h1,h2⟩:=h e;rw[h1,h2] at hw;simp at hw
theorem Xb(hm:∀i,Ay (bk i)=true){ns:List (List UInt8)}{nm:List UInt8}(hn:nm∈ns)(hg:(Bv bk nm).gone=false)(i:Fin 3)(r c:Nat):FK bk ns nm i r c=Nm (Cn (Cs bk ns i) (bk i)) (Gm (Bv bk nm) i) r c:=by
 unfold FK JB Nm;rw[(D6 hm nm).1 i,YK]
 cases e:Bq (bk i) nm with
 | none=>rfl
 | some t=>
  rw[XK hm hn e,AbG];dsimp only;rw[if_neg (by rw[((QA hm nm i t e).2 hg).2];simp)];obtain rfl:=(BU e).1
  cases Eu (Gm (Bv bk t.name) i).rows.to (r:Int) with
  | none=>rfl
  | some x=>
   cases Eu (Gm (Bv bk t.name) i).cols.to (c:Int) with
   | none=>rfl
   | some y=>exact congrArg some (ZV _ t x y).symm
theorem Vo(hm:∀i,Ay (bk i)=true){ns:List (List UInt8)}{nm:List UInt8}(hn:nm∈ns)(i:Fin 3){s:Af}(hs:Bq (bk i) nm=some s)(hst:Gm (Bv bk nm) i=A3 s){r c:Nat}(hr:r<s.rows.length)(hc:c<s.cols.toNat):(FK bk ns nm i r c).getD []=YY (Cn (Cs bk ns i) (bk i)) nm r c:=by
 unfold FK JB YY;rw[YK,hs,XK hm hn hs,hst,AbG];dsimp only;rw[show(A3 s).rows.to=(BL s.rows.length).to from rfl,show(A3 s).cols.to=(BL s.cols.toNat).to from rfl,HD hr,HD hc];obtain rfl:=(BU hs).1;rw[ZV];rfl
theorem VC(hm:∀i,Ay (bk i)=true){ns:List (List UInt8)}{nm:List UInt8}(hn:nm∈ns)(hg:(Bv bk nm).gone=false){r c:Nat}(hr:(r:Int)<(Bv bk nm).rows)(hc:(c:Int)<(Bv bk nm).cols):En (Bv bk nm) (FK bk ns nm) r c=Ia (Bv bk nm) (Cn (Cs bk ns 0) (bk 0)) (Cn (Cs bk ns 1) (bk 1)) (Cn (Cs bk ns 2) (bk 2)) r c:=by
 have f:=λi=>Xb hm hn hg i r c;obtain⟨-,-,-,-,-,-,h1,h2,-⟩:=K8 hm nm;have a0:=(D6 hm nm).2;unfold En Ia;rcases e:(Bv bk nm).whole with _ | _ | k
 ·show Dt _ _ _=Dt _ _ _;rw[f 0,f 1,f 2];rfl
 ·obtain⟨s,hs,a1,k1,k2⟩:=h1 e;show((FK bk ns nm 1 r c).getD [],none)=(YY _ (Bv bk nm).name r c,none);rw[a0,Vo hm hn 1 hs a1 Aeb Aeb]
 ·obtain⟨s,hs,a1,k1,k2⟩:=h2 Aeb;show((FK bk ns nm 2 r c).getD [],none)=(YY _ (Bv bk nm).name r c,none);rw[a0,Vo hm hn 2 hs a1 Aeb Aeb]
theorem Hy{α β:Type}{f g:α→List β}:∀{l:List α},(∀a∈l,f a=g a)→l.flatMap f=l.flatMap g
 | [],_=>rfl
 | a::l,h=>by rw[AbV,AbV,h a (AbC ..),Hy λb hb=>h b (Ab5 _ hb)]
theorem Ot(hm:∀i,Ay (bk i)=true){ns:List (List UInt8)}{p:A8}(hp:p∈OB bk ns):BX bk ns p=GI p (Cn (Cs bk ns 0) (bk 0)) (Cn (Cs bk ns 1) (bk 1)) (Cn (Cs bk ns 2) (bk 2))∧CD bk ns p=LV p (Cn (Cs bk ns 0) (bk 0)) (Cn (Cs bk ns 1) (bk 1)) (Cn (Cs bk ns 2) (bk 2)):=by
 obtain⟨nm,hn,rfl,hg⟩:=Q0 hp;have a0:=(D6 hm nm).2;have key:∀r∈List.range (Bv bk nm).rows.toNat,∀c∈List.range (Bv bk nm).cols.toNat,En (Bv bk nm) (FK bk ns nm) r c=Ia (Bv bk nm) (Cn (Cs bk ns 0) (bk 0)) (Cn (Cs bk ns 1) (bk 1)) (Cn (Cs bk ns 2) (bk 2)) r c:=λr hr c hc=>by
  have hr:=Ac1.1 hr;have hc:=Ac1.1 hc;exact VC hm hn hg Aeb Aeb
 constructor
 ·unfold BX GI;rw[a0]
  congr 1
  refine Acg λr hr=>?_;unfold FB YC;refine Acg λc hc=>?_;rw[key r hr c hc]
 ·unfold CD LV AK;rw[a0]
  congr 1
  refine Hy λr hr=>?_;unfold Bh;refine Hy λc hc=>?_;unfold Cy X9;rw[key r hr c hc,a0];rfl
theorem We(bk:Fin 3→Ao):H6 bk=EL (bk 0) (bk 1) (bk 2):=by
 unfold H6 EL;by_cases h:∀i,Ay (bk i)=true
 ·rw[if_pos h,if_pos (show Ay (bk 0)=true∧Ay (bk 1)=true∧Ay (bk 2)=true from⟨h 0,h 1,h 2⟩),Ya h];have e:Bs (bk 0) (bk 1) (bk 2)=(Am bk).map (Bv bk):=rfl;rw[e]
  split
  ·rfl
  ·unfold L1;rw[e];have eo:Ez (bk 0) (((Am bk).map (Bv bk)).map A8.o)=Cn (Cs bk (Am bk) 0) (bk 0):=by rw[JH h];rfl
   have ea:Ez (bk 1) (((Am bk).map (Bv bk)).map A8.a)=Cn (Cs bk (Am bk) 1) (bk 1):=by rw[JH h];rfl
   have eb:Ez (bk 2) (((Am bk).map (Bv bk)).map A8.b)=Cn (Cs bk (Am bk) 2) (bk 2):=by rw[JH h];rfl
   dsimp only;rw[eo,ea,eb,←Sn]
   congr 1
   ·exact Acg λp hp=>(Ot h hp).1
   ·exact Hy λp hp=>(Ot h hp).2
 ·rw[if_neg h,if_neg];rintro⟨h0,h1,h2⟩;refine h λi=>?_
  match i with
  | 0=>exact h0
  | 1=>exact h1
  | 2=>exact h2
theorem IR(o a b:Ao)(vo va vb:Value)(w:World)(g:Dq w)(ho:Bu w vo o)(ha:Bu w va a)(hb:Bu w vb b):A9 prog 15 [.agg ⟨[vo]⟩,.agg ⟨[va]⟩,.agg ⟨[vb]⟩] w (λv w'=>∃ov cv,v=.tuple #[.agg ⟨[ov]⟩,cv,.int .i64 (EL o a b).e]∧Bu w' ov (EL o a b).b∧Xn w' cv (EL o a b).c∧Ah w w'):=by
 have:=Ub (λ| 0=>o | 1=>a | 2=>b) (λ| 0=>vo | 1=>va | 2=>vb) w g (λi=>by
  match i with
  | 0=>exact ho
  | 1=>exact ha
  | 2=>exact hb) Y1
 rw[We] at this;exact this
end
end Go.Proofs.YtcjjcnecopnpcaaGreatDoor
