/-
  Joined by program out of the texts MerG Book8 Book5 Book9 BookA Mvb1 Lin1 FarS Law20G.
-/
import Derived.Test.YtcjjcnecopnpcaaGreatDoorMzT
import Derived.Test.YtcjjcnecopnpcaaGreatDoorMzG
import Derived.Test.YtcjjcnecopnpcaaGreatDoorMzI
import Derived.Test.YtcjjcnecopnpcaaGreatDoorMzK
import Derived.Test.YtcjjcnecopnpcaaGreatDoorMzM
import Derived.Test.YtcjjcnecopnpcaaGreatDoorMzH
import Derived.Test.YtcjjcnecopnpcaaGreatDoorMzL
namespace Go.Proofs.YtcjjcnecopnpcaaGreatDoor
open Tryz
open Go Go.E
theorem VD{t:Tr false}(h:t.okB=true){own:List UInt8}{ss:List Bl}(hss:∀s∈ss,s.May)(hl:(t.mv (Bv DQ own ss)).text.length<300):CP own ss (61::t.text)=61::(t.mv (Bv DQ own ss)).text:=by
 have hm:=PJ h;simp only[Tr.okB,AaG,decide_eq_true_eq] at h;obtain⟨⟨⟨h1,h2⟩,h3⟩,h4⟩:=h;have hf:=t.fit_of h1;have hp:AY t.text=.ok (t.flat 0):=by rw[EW t hf (Tr.num_of' h2),if_neg AdV,if_pos h4]
 obtain⟨e,a0⟩:=Hq (own:=own) hss hf;rw[Ih (s:=61::t.text) rfl Aei hm hp,e,F8 a0,if_neg AdV]
theorem KP{l:List Nat}{f g:Nat→List UInt8}{ss:List Bl}(h:∀s∈l,CP [65] (Il (A4 (l.map f)) ss) (f s)=g s):E3 (A4 (l.map f)) ss=A4 (l.map g):=by
 show[NU _ _]=[_];unfold NU
 congr 2
 show((l.map f).map λt=>[t]).map _=(l.map g).map λt=>[t];simp only[Adn];refine Acq λs hs=>?_;show Kg [65] _ [f s]=[g s];unfold Kg;rw[Acb,Ac3,h s hs]
theorem XU(l:List (List UInt8))(s:Bl)(h:s.sheet=[65]):Il (A4 l) [s]=[s]:=by
 unfold Il;rw[AdM]
 ·rfl
 ·rw[h];rfl
def BL(x:List UInt8)(t:Nat):List UInt8:=if t=0 then[] else if t<30 then Lib.itoa ((90+t:Nat):Int) else if t=60 then[39,105,110] else if t=70 then x else[]
def GF(k i:Nat):List Nat:=(A2 k).take i++(A2 k).drop (i+1)
def Kd(k i:Nat):List Nat:=(A2 k).take i++60::(A2 k).drop i
def Aa0(s:Bl):Bool:=Er s.rows&&Er s.cols
theorem XP{s:Bl}(h:Aa0 s=true):∀x∈[s],x.May:=λx hx=>by
 obtain rfl:=B3.1 hx
 simpa[Aa0,Bl.May] using h
def Pt(t:Tr false)(w:List UInt8)(o x y want:List Nat)(mx my:List Int):Bool:=
 decide (x≠y)&&decide (o.length≤24)&&decide (x.length≤24)&&decide (y.length≤24)&&decide (want.length≤24)&&t.okB&&
 (let r:=A8 ⟨mx,x.length⟩ ⟨my,y.length⟩
  decide (HY o x y r=want.map λt=>(t,false))&&Aa0 (Ft r).a&&decide (61::(t.mv (Bv DQ [65] [(Ft r).a])).text=w)&&decide (w.length≤200))
def Eo(k:Nat):List Nat:=A2 k++[60]
theorem MA{t:Tr false}{w:List UInt8}{k:Nat}(hk:k≤12){o x y want:List Nat}(ho:o ⊆ Eo k)(hx:∀s∈x,s∈Eo k∨s=70)(hy:y ⊆ Eo k)(h61:Ai w 0=61){mx my:List Int}(ex:AU o x=mx)(ey:AU o y=my)(h:Pt t w o x y want mx my=true) :
  CN (A4 (o.map (BL (61::t.text)))) (A4 (x.map (BL (61::t.text)))) (A4 (y.map (BL (61::t.text))))=⟨A4 (want.map (BL w)),[],0⟩:=by
 simp only[Pt,AaG,decide_eq_true_eq] at h;obtain⟨⟨⟨⟨⟨⟨a6,lo⟩,lx⟩,ly⟩,lw⟩,a1⟩,⟨⟨hw,a7⟩,a2⟩,a9⟩:=h;have inj60:∀s∈0::(A2 12++[60]),∀t∈0::(A2 12++[60]),BL [] s=BL [] t→s=t:=by decide +kernel
 have a0:∀s∈0::Eo k,s∈0::(A2 12++[60])∧s≠70:=λs hs=>by
  rcases AaH.1 hs with rfl | hs
  ·exact⟨Ab6 ..,by decide⟩
  ·rcases AaC.1 hs with h | h
   ·obtain⟨r,hr,rfl⟩:=AbJ.1 h;have hr:=Acg.1 hr;exact⟨Abk _ (AbV _ (AbJ.2 ⟨r,Acg.2 AdV,rfl⟩)),by omega⟩
   ·obtain rfl:=B3.1 h;exact⟨by decide,by decide⟩
 have same:∀(z:List UInt8) (s:Nat),s≠70→BL z s=BL [] s:=λz s h=>by
  unfold BL;rw[if_neg h,if_neg h]
 have no61:∀s∈0::(A2 12++[60]),Ai (BL [] s) 0≠61:=by decide +kernel
 have inj:∀z:List UInt8,Ai z 0=61→∀s∈0::(Eo k++[70]),∀t∈0::(Eo k++[70]),BL z s=BL z t→s=t:=λz hz=>by
  have key:∀s∈0::(Eo k++[70]),s∈0::Eo k∨s=70:=λs hs=>by
   rcases AaH.1 hs with rfl | hs
   ·exact .inl (Ab6 ..)
   ·rcases AaC.1 hs with h | h
    ·exact .inl (Abk _ h)
    ·exact .inr (B3.1 h)
  intro s hs t ht e;rcases key s hs with h1 | rfl<;>rcases key t ht with h2 | rfl
  ·obtain⟨h1,n1⟩:=a0 s h1;obtain⟨h2,n2⟩:=a0 t h2;rw[same z s n1,same z t n2] at e;exact inj60 s h1 t h2 e
  ·obtain⟨h1,n1⟩:=a0 s h1;rw[same z s n1] at e;exact absurd (by rw[e];exact hz) (no61 s h1)
  ·obtain⟨h2,n2⟩:=a0 t h2;rw[same z t n2] at e;exact absurd (by rw[←e];exact hz) (no61 t h2)
  ·rfl
 have may:∀s∈Eo k,Cs (BL (61::t.text) s)=true:=λs hs=>by
  rcases AaC.1 hs with h | h
  ·obtain⟨r,hr,rfl⟩:=AbJ.1 h;have hr:=Acg.1 hr;unfold BL;rw[if_neg AdV,if_pos AdV];exact MP _ AdV AdV
  ·obtain rfl:=B3.1 h;show Cs [39,105,110]=true
   decide +kernel
 have hS:JI (Eo k++[70]) (BL (61::t.text)):=by
  refine⟨λs hs u hu=>inj _ rfl s (Abk _ hs) u (Abk _ hu),λs hs e=>?_,λs hs=>?_⟩
  ·have:=inj (61::t.text) rfl s (Abk _ hs) 0 (Ab6 ..) e;subst this;rcases AaC.1 hs with h | h
   ·rcases AaC.1 h with h | h
    ·obtain⟨r,-,hr⟩:=AbJ.1 h;omega
    ·cases B3.1 h
   ·cases B3.1 h
  ·rcases AaC.1 hs with h | h
   ·exact may s h
   ·obtain rfl:=B3.1 h;exact PJ a1
 have stay:∀(ss:List Bl) (s:Nat),s∈Eo k→CP [65] ss (BL (61::t.text) s)=BL w s:=λss s hs=>by
  obtain⟨h1,n1⟩:=a0 s (Abk _ hs);rw[same (61::t.text) s n1,same w s n1];exact EF (.inr (.inl (no61 s h1)))
 have a3:x ⊆ Eo k++[70]:=λs hs=>by
  rcases hx s hs with h | rfl
  ·exact AbV _ h
  ·exact Acf _ (B3.2 rfl)
 have a4:o ⊆ Eo k++[70]:=λs hs=>AbV _ (ho hs);have a5:y ⊆ Eo k++[70]:=λs hs=>AbV _ (hy hs);have a8:(A8 ⟨mx,x.length⟩ ⟨my,y.length⟩).now=want.length:=by
  have:=congrArg List.length hw
  simpa[HY] using this
 have:=OK (T:=Eo k++[70]) hS (inj w h61) rfl a4 a3 a5 a4 a3 a5 lo lx ly a6 ex ey rfl (KP λs hs=>stay _ s (ho hs)) (KP λs hs=>?_) (KP λs hs=>stay _ s (hy hs)) hw
 ·rw[this,if_neg AdV]
 ·rcases hx s hs with h | rfl
  ·exact stay _ s h
  ·rw[XU _ _ rfl];show CP [65] _ (61::t.text)=w;rw[VD a1 (XP a7) (by
    have:=congrArg List.length a2;simp only[AaF] at this;omega),a2]
def trG(i:Nat):Tr false:=.two 16 (lfR (rfP 0 (i:Int))) (lfN 1)
def QP:List UInt8:=[61,35,82,69,70,33,43,49]
def ZX(k i:Nat):Bool:=(A2 k).isSublist (A2 k++[70])&&(GF k i).isSublist (A2 k)&&Pt (trG i) QP (A2 k) (A2 k++[70]) (GF k i) (GF k i++[70]) (YH (A2 k) (A2 k++[70])) (dnP (A2 k) (GF k i))&&decide (61::(trG i).text=[61,65]++Lib.itoa ((i+1:Nat):Int)++[43,49])
theorem Xy:∀k,k<7→∀i,i<k+3→ZX (k+3) i=true:=by decide +kernel
theorem J5{k:Nat}:A2 k ⊆ Eo k:=λ_ hs=>AbV _ hs
theorem Zk{k i:Nat}:GF k i ⊆ Eo k:=λs hs=>by
 rcases AaC.1 hs with h | h
 ·exact J5 (AbD h)
 ·exact J5 (AbE h)
theorem Zp{k i:Nat}:Kd k i ⊆ Eo k:=λs hs=>by
 rcases AaC.1 hs with h | h
 ·exact J5 (AbD h)
 ·rcases AaH.1 h with rfl | h
  ·exact Acf _ (B3.2 rfl)
  ·exact J5 (AbE h)
theorem Rq{k:Nat}:∀s∈A2 k++[70],s∈Eo k∨s=70:=λs hs=>by
 rcases AaC.1 hs with h | h
 ·exact .inl (J5 h)
 ·exact .inr (B3.1 h)
def Fq(i:Nat):List UInt8:=[61,65]++Lib.itoa ((i+1:Nat):Int)++[43,49]
theorem SN{k i:Nat}(hk:k<10)(h3:3≤k)(hi:i<k) :
  CN (A4 ((A2 k).map (BL (Fq i)))) (A4 ((A2 k++[70]).map (BL (Fq i)))) (A4 ((GF k i).map (BL (Fq i))))=⟨A4 ((GF k i++[70]).map (BL QP)),[],0⟩:=by
 have h:=Xy (k - 3) AdV i AdV;rw[Nat.sub_add_cancel h3] at h;simp only[ZX,AaG,decide_eq_true_eq,AcK] at h;obtain⟨⟨⟨s1,s2⟩,hc⟩,e⟩:=h;rw[Fq,←e];exact MA (k:=k) AdV J5 Rq Zk rfl (EJ s1) (VS s2) hc
def Ab1(a b:CH):Ag:={kind:=6,ref:=a,to:=b}
def trR(sum:Bool)(a b:Nat):Tr false:=if sum=true then .call [83,85,77] (.snoc .nil (.leaf (Ab1 (rfP 0 (a:Int)) (rfP 0 (b:Int))))) else lfR (rfP 0 (b:Int))
def Ea(sum:Bool)(a b:Nat):List UInt8:=if sum=true then[61,83,85,77,40,65]++Lib.itoa ((a+1:Nat):Int)++[58,65]++Lib.itoa ((b+1:Nat):Int)++[41] else[61,65]++Lib.itoa ((b+1:Nat):Int)
def PZ(i j:Nat):Nat:=if i≤j then j+1 else j
def L0(i j:Nat):Nat:=if j=0 then PZ i j else if i=0 then 1 else 0
def NG(k i:Nat):List Nat:=if i=k then A2 k++[70,60] else Kd k i++[70]
def Aad(sum:Bool)(k i j:Nat):Bool:=(A2 k).isSublist (A2 k++[70])&&(A2 k).isSublist (Kd k i)&&Pt (trR sum 0 j) (Ea sum (L0 i j) (PZ i j)) (A2 k) (A2 k++[70]) (Kd k i) (NG k i) (YH (A2 k) (A2 k++[70])) (YH (A2 k) (Kd k i))&&decide (61::(trR sum 0 j).text=Ea sum 0 j)&&decide ((List.range (k+2)).countP (λr=>decide (BL (Ea sum (L0 i j) (PZ i j)) ((NG k i).getD r 0)=Ea sum (L0 i j) (PZ i j)))=1)
theorem Ym:∀sum:Bool,∀k,k<8→∀i,i<k+3→∀j,j<k+2→Aad sum (k+2) i j=true:=by decide +kernel
theorem Xr(sum:Bool)(a b:Nat):Ai (Ea sum a b) 0=61:=by
 unfold Ea
 split<;>rfl
theorem Tz{sum:Bool}{k i j:Nat}(hk:k<10)(h2:2≤k)(hi:i<k+1)(hj:j<k) :
  CN (A4 ((A2 k).map (BL (Ea sum 0 j)))) (A4 ((A2 k++[70]).map (BL (Ea sum 0 j)))) (A4 ((Kd k i).map (BL (Ea sum 0 j))))=⟨A4 ((NG k i).map (BL (Ea sum (L0 i j) (PZ i j)))),[],0⟩∧
  (List.range (k+2)).countP (λr=>decide (BL (Ea sum (L0 i j) (PZ i j)) ((NG k i).getD r 0)=Ea sum (L0 i j) (PZ i j)))=1:=by
 have h:=Ym sum (k - 2) AdV i AdV j AdV;rw[Nat.sub_add_cancel h2] at h;simp only[Aad,AaG,decide_eq_true_eq,AcK] at h;obtain⟨⟨⟨⟨s1,s2⟩,hc⟩,e⟩,hn⟩:=h;refine⟨?_,hn⟩;rw[←e];exact MA (k:=k) AdV J5 Rq Zp (Xr ..) (EJ s1) (EJ s2) hc
theorem C6{w:World}{p:Option Addr}{c a:Nat}{l:List (List UInt8)}(h:Bz w (.slice p l.length c) l)(ha:a≤l.length):p=none∧a=0∨∃x,p=some x∧∀j u,((l.take a).map Av)[j]?=some u→w.cell? (x.add j)=some u:=by
 cases p with
 | none=>
  left
  refine⟨rfl,?_⟩;obtain⟨-,⟨e,e2⟩ | ⟨x,cap,e,-,-⟩⟩:=h
  ·rw[e2] at ha;simpa using ha
  ·cases(AcO e).1
 | some x=>
  right
  refine⟨x,rfl,λj u hj=>?_⟩;rw[AbH,List.getElem?_take] at hj
  split at hj
  ·obtain⟨t,ht,rfl⟩:=AdO.1 hj;obtain⟨y,e,-,-,hc⟩:=Ak.at h ht;obtain rfl:=Ab9 e;rw[show((j:Nat):Int).toNat*1=j by omega] at hc;exact hc
  ·cases hj
theorem Bo{w:World}{p:Option Addr}{c a:Nat}{l:List (List UInt8)}(h:Bz w (.slice p l.length c) l)(ha:a≤l.length)(hlc:l.length≤c):(if c=a then p else p.map (·.add (a*1)))=none∧l.length - a=0∨∃x,(if c=a then p else p.map (·.add (a*1)))=some x∧∀j u,((l.drop a).map Av)[j]?=some u→w.cell? (x.add j)=some u:=by
 cases p with
 | none=>
  left
  refine⟨by simp,?_⟩;obtain⟨-,⟨e,e2⟩ | ⟨x,cap,e,-,-⟩⟩:=h
  ·rw[e2];simp
  ·cases(AcO e).1
 | some x=>
  right
  by_cases e:c=a
  ·refine⟨x,by rw[if_pos e],λj u hj=>?_⟩;rw[Acy AdV] at hj;simp at hj
  ·refine⟨x.add (a*1),by rw[if_neg e];rfl,λj u hj=>?_⟩;rw[AbH,AcW] at hj;obtain⟨t,ht,rfl⟩:=AdO.1 hj;obtain⟨y,e2,-,-,hc⟩:=Ak.at h ht;obtain rfl:=Ab9 e2;rw[Addr.add_add,show a*1+j=((a+j:Nat):Int).toNat*1 by omega];exact hc
theorem WQ{w:World}{X:Nat}{v0 u:Value}{T:TypeId}{a:Addr}(hX:Blk w X [v0] T)(ha:a.block=X)(hc:w.cell? a=some u):u=v0:=by
 unfold World.cell? at hc;have hX:w.heap[X]?=some (.cells ⟨[v0]⟩ T (0,0)):=hX;rw[ha,hX] at hc;dsimp only at hc
 split at hc
 ·cases hc
 ·have hc:([v0]:List Value)[a.off]?=some u:=by simpa using hc
  match h:a.off with
  | 0=>rw[h] at hc;exact(Ab9 hc).symm
  | n+1=>rw[h] at hc;simp at hc
theorem Ab.avoid{α:Type}{m:Nat}{R:E6 α}{w:World}{v v0:Value}{l:List α}{X:Nat}{T:TypeId}(hm:0<m)(h:Ab m G3 R w v l)(hX:Blk w X [v0] T)(hne:∀i x cs,l[i]?=some x→R i w cs x→∀u,cs[0]?=some u→u≠v0):Ab m (λa=>a.block≠X) R w v l:=by
 obtain⟨h0,h | ⟨a,c,e,-,hh⟩⟩:=h
 ·exact⟨h0,.inl h⟩
 ·refine⟨h0,.inr ⟨a,c,e,λhl ha=>?_,hh⟩⟩;obtain⟨x,hx⟩:∃x,l[0]?=some x:=by
   cases l with
   | nil=>exact absurd rfl hl
   | cons x l=>exact⟨x,rfl⟩
  obtain⟨cs,h1,h2,h3⟩:=hh 0 x hx;obtain⟨u,hu⟩:∃u,cs[0]?=some u:=⟨_,B7 AdV⟩;exact hne 0 x cs hx h2 u hu (WQ hX (by rw[CJ,CJ];exact ha) (h3 0 u hu))
def Vg(X:Nat):Addr→Prop:=λa=>a.block≠X
theorem T9{w:World}{v:Value}{b:Ao}{X:Nat}{T:TypeId}(h:AR w v b)(hX:Blk w X [.slice none 0 0] T)(hne:∀s∈b,∀r∈s.rows,r≠[]):Aa (Vg X) (λ_=>Vg X) (λ_ _=>Vg X) w v b:=by
 have h1:Ab 3 G3 (Y6 (λ_=>Vg X) (λ_ _=>Vg X)) w v b:=Ab.map h (λ_ h=>h) λi s cs hi ⟨rv,e,hn,hr⟩=>⟨rv,e,hn,by
  have hs:=Ab7 hi;have h2:Ab 1 G3 (Abd (λ_=>Vg X)) w rv s.rows:=Ab.map hr (λ_ h=>h) λj r ds hj ⟨u,eu,ht⟩=>⟨u,eu,Ab.avoid AdZ ht hX λk t es hk ⟨ee,_⟩ z hz a0=>by
   rw[ee] at hz;obtain rfl:=Ab9 hz;cases a0⟩
  refine Ab.avoid AdZ h2 hX λj r ds hj ⟨u,eu,ht⟩ z hz a0=>?_;rw[eu] at hz;obtain rfl:=Ab9 hz;have a1:=hne s hs r (Ab7 hj);obtain⟨p,c,rfl⟩:=Ab.slice ht;injection a0 with _ e2 _;exact a1 (AbF e2)⟩
 refine Ab.avoid AdZ h1 hX λi s cs hi ⟨rv,e,_,_⟩ z hz a0=>?_;rw[e] at hz;obtain rfl:=Ab9 hz;cases a0
theorem Ax{w w':World}{v:Value}{b:Ao}{X:Nat}{T:TypeId}(h:AR w v b)(hX:Blk w X [.slice none 0 0] T)(hne:∀s∈b,∀r∈s.rows,r≠[])(hc:Chg [X] w w'):AR w' v b:=by
 have hf:=T9 h hX hne;refine Aa.of (Aa.chg hf hc (λa ha hm=>ha (B3.1 hm)) (λ_ a _ ha hm=>ha (B3.1 hm)) (λ_ _ _ _ a _ _ _ ha hm=>ha (B3.1 hm)))
theorem AJ(l:List (List UInt8)):∀s∈A4 l,∀r∈s.rows,r≠[]:=λs hs r hr=>by
 obtain rfl:=B3.1 hs;obtain⟨t,-,rfl⟩:=AbJ.1 hr;simp
theorem DW.empty{w:World}{b lo:Nat}(hB:Blk w b [] 9)(hl:lo≤b):DW w lo (.slice (some ⟨b,0,none⟩) 0 0) []:=⟨rfl,.inr ⟨b,0,[],rfl,hB,by simp,by simp,hl⟩⟩
theorem DW.cap{w:World}{lo n c:Nat}{p:Option Addr}{l:List (List UInt8)}(h:DW w lo (.slice p n c) l):n=l.length∧n≤c:=by
 obtain⟨_,⟨e,e2⟩ | ⟨g,cap,sp,e,hB,h1,_,_⟩⟩:=h
 ·injection e with _ e3 e4;omega
 ·injection e with _ e3 e4;subst e3 e4;exact⟨rfl,h1⟩
theorem A9{α:Type}(a u:α):GB (λ_:Fin 1=>a) 0 u=λ_=>u:=by funext j;match j with | 0=>rfl
theorem Bk.one{w:World}{lo:Nat}{v:Value}{l:List (List UInt8)}(h:DW w lo v l):Bk w lo (λ_:Fin 1=>v) (λ_=>l):=⟨λ_=>h,λi j h=>absurd (Subsingleton.elim i j) h⟩
theorem Bk.nin{w:World}{lo B:Nat}{v:Fin 1→Value}{l:Fin 1→List (List UInt8)}(h:Bk w lo v l)(hb:w.heap.size≤B):B∉Ac (v 0):=λhm=>by have:=(E.Own.lt (h.own 0) hm).2;omega
theorem Bk.lo{w:World}{lo:Nat}{v:Fin 1→Value}{l:Fin 1→List (List UInt8)}(h:Bk w lo v l):∀b,b∈Ac (v 0)→lo≤b:=λ_ hb=>(E.Own.lt (h.own 0) hb).1
theorem QI(x:List UInt8){r:Nat}(hr:r<20):BL x (10+r)=Lib.itoa (100+(r:Int)):=by
 rw[BL,if_neg AdV,if_pos AdV]
 congr 1
 omega
theorem XB(F:Nat→List UInt8)(k i:Nat):(GF k i).map F=((A2 k).map F).take i++((A2 k).map F).drop (i+1):=by rw[GF,AbT,Aea,Aeb]
theorem SG{x:List UInt8}(hx:x.length≤200)(t:Nat):(BL x t).length≤1000:=by
 unfold BL
 split
 ·simp
 split
 ·have:=Lib.itoa_length_le ((90+t:Nat):Int) AdV AdV;omega
 split
 ·decide
 split
 ·omega
 ·simp
theorem Lz{x:List UInt8}(hx:x.length≤200)(l:List Nat):∀t∈l.map (BL x),t.length≤1000:=λt ht=>by
 obtain⟨s,-,rfl⟩:=AbJ.1 ht;exact SG hx s
set_option maxRecDepth 8000 in
set_option maxHeartbeats 8000000 in
theorem NM(n at':Nat)(w:World)(g:CT w)(hn:n<256)(hat:at'<256):AN prog 9 [.int .u8 n,.int .u8 at'] w (λr w'=>r=.bool true∧Ah w w'):=by
 refine Bq func9 ntmps9 ?_;refine Sw ?_;obtain⟨k,hk⟩:∃k:Nat,3+(n:Int) % 7=(k:Int):=⟨3+n % 7,by omega⟩;have c7:k<10∧3≤k:=AdV
 obtain⟨c8,c9⟩:=c7;rw[hk];clear hk;obtain⟨i,hi⟩:∃i:Nat,(at':Int) % (k:Int)=(i:Int):=⟨((at':Int) % (k:Int)).toNat,(Acr (Adr _ AdV)).symm⟩;have ca:i<k:=by have:=Ada (at':Int) (show(0:Int)<(k:Int) by omega);omega
 have ck:=Lib.itoa_length_le ((i:Int)+1) AdV AdV;have cb:(Fq i).length≤200:=by
  have:=Lib.itoa_length_le ((i+1:Nat):Int) AdV AdV;simp only[Fq,B6,AaF,Abz];omega
 obtain⟨F,b3⟩:∃F,F=BL (Fq i):=⟨_,rfl⟩;have bs:∀l:List Nat,∀t∈l.map F,t.length≤1000:=λl=>by rw[b3];exact Lz cb l
 have bt:Bk w w.heap.size (Iy (.slice none 0 0) (.slice none 0 0) (.slice none 0 0)) (Iy [] [] []):=by rw[←GU,←GU];exact Bk.nil _ _
 refine CW.loop (ι:=Nat×Value) (λx w'=>x.1≤k∧Ah w w'∧Bk w' w.heap.size (Iy x.2 (.slice none 0 0) (.slice none 0 0)) (Iy ((A2 x.1).map F) [] [])) (λx=>[(1,.int .u8 at'),(5,.int .i64 k),(6,x.2),(7,.int .i64 x.1)]) (λx=>k - x.1) (0,.slice none 0 0) ⟨Acp _,Chg.refl _ _,bt⟩ Bx ?_;clear bt;rintro⟨r,v⟩ w1 ⟨hr,b4,hF⟩;dsimp only at hr hF;show CW _ _ _ _ _ [(1,.int .u8 (at':Int)),(5,.int .i64 (k:Int)),(6,v),(7,.int .i64 (r:Int))] _;have cl:=b4.size;refine Sw ?_;refine AB (λh1=>?_) λh1=>?_
 ·have h1:r<k:=by simp at h1;omega
  refine Sw ?_;refine Ar rfl rfl (AK (100+(r:Int)) AdV AdV _) ?_;rintro u w2 ⟨rfl,ak⟩;have cd:=ak.size;refine Sw ?_;refine CF λD w3 ce bd hD=>?_;have cm:=bd.size;refine Sw ?_;refine LW.push 0 ((hF.ext ak).ext bd) hD AdV AeJ ?_;intro u w4 b5 bu;rw[W7,W7] at bu;refine Sw ?_;refine QW.again (r+1,u) ⟨by show r+1≤k;omega,(b4.trans (ak.trans bd)).step b5 λb hb=>(E.Own.lt (hF.own 0) hb).1,?_⟩ Bx Afb;show Bk _ _ _ (Iy ((A2 (r+1)).map F) [] []);rw[IU,CM F _ _ (show F (10+r)=Lib.itoa (100+(r:Int)) by rw[b3];exact QI _ AdV)];exact bu
 have h1:r=k:=by simp at h1;omega
 subst h1;obtain⟨L,hL⟩:∃L,L=(A2 r).map F:=⟨_,rfl⟩;have cf:L.length=r:=by rw[hL,Abr,B4]
 have a6:∀t∈L,t.length≤1000:=by rw[hL];exact bs _
 have bw:F 70=Fq i:=by rw[b3];rfl
 have gm:=SN (k:=r) (i:=i) c8 c9 ca;rw[←b3,AbT,XB,←hL,show[70].map F=[Fq i] by rw[Acb,bw];rfl] at gm;have gl:(GF r i++[70]).length=r:=by
  rw[B6,GF,B6,Abf,Abs,B4];simp;omega
 obtain⟨W,hW⟩:∃W,W=(GF r i++[70]).map (BL QP):=⟨_,rfl⟩;have b6:W.length=r:=by rw[hW,Abr,gl]
 have b7:W[r - 1]?=some QP:=by
  rw[hW,AbT,Aca (by rw[Abr];rw[B6] at gl;simp at gl;omega),Abr,show r - 1 - (GF r i).length=0 by rw[B6] at gl;simp at gl;omega];rfl
 rw[←hW] at gm;rw[←hL] at hF;clear hL hW gl bw bs;subst cf;obtain⟨p,c,rfl⟩:∃p c,v=.slice p L.length c:=E.Own.slice (hF.own 0);have ae:L.length≤c:=(DW.cap (hF.own 0)).2;have hT:Bz w1 (.slice p L.length c) L:=DW.texts (hF.own 0) AeT a6;clear hF;refine Sw ?_;rw[hi];clear hi
 (apply LW.buildSlice0;exact rfl;exact rfl;exact rfl;exact rfl;intro A0 w2 cn ak hA)
 have cd:=ak.size;have be:=Bk.one (DW.empty (lo:=w1.heap.size) hA AdV);refine Sw ?_;refine LW.pushSrc 0 be (KR (Ak.ext hT ak)) rfl AdV (by show 0+L.length≤1000;omega) ?_;intro u w3 ai _ aq;rw[A9,A9] at aq;replace aq:Bk w3 w1.heap.size (λ_:Fin 1=>u) (λ_=>L):=aq;have ab:=ak.step ai λb hb=>(E.Own.lt (be.own 0) hb).1;clear be hA ai;refine Sw ?_;refine Ar rfl rfl (AK ((i:Int)+1) AdV AdV _) ?_;rintro u2 w4 ⟨rfl,b8⟩;have co:=(ab.trans b8).size;refine Sw ?_;refine CF λD w5 ce b9 hD=>?_;have cq:=b9.size;replace hD:Blk w5 D [Av (Fq i)] 9:=hD;refine Sw ?_;refine LW.push 0 ((aq.ext b8).ext b9) hD AdV AeT ?_;intro u3 w6 bx ar;rw[A9,A9] at ar;replace ar:Bk w6 w1.heap.size (λ_:Fin 1=>u3) (λ_=>L++[Fq i]):=ar;have au:=(ab.trans (b8.trans b9)).step bx λb hb=>(E.Own.lt (aq.own 0) hb).1;clear aq bx hD b8 b9 ab;refine Sw ?_;refine Ar rfl rfl (An (L++[Fq i]) _ w6 (DW.texts (ar.own 0) (by show(L++[Fq i]).length≤1000;simp;omega) (λt ht=>by
  rcases AaC.1 ht with h | h
  ·exact a6 t h
  ·rw[B3.1 h];omega)) AdY) ?_
 rintro u4 w7 ⟨av,rfl,hA,bz⟩;obtain⟨ap,ac,rfl⟩:=Ab.slice hA;refine Sw ?_;refine Bt λA w8 cg bf al=>?_;have cr:=bf.size;refine Sw ?_;refine AM λw9 c0 al=>?_;replace al:Blk w9 A [.slice ap 1 ac] 24:=al;have am:=bf.step c0 AdY;replace hA:=Aa.ext hA am;have an:=(au.trans bz).trans am;have af:=Ak.ext hT an;have aw:=b4.trans an;clear ar hT au bz am bf c0 an b4;refine Sl ?_;apply LW.nil;apply QW.then_n;refine CW.seq_cut (ι:=Nat×Option Addr×Nat) (λx w'=>Ah w9 w'∧Blk w' x.1 [.slice x.2.1 1 x.2.2] 24∧AR w' (.slice x.2.1 1 x.2.2) (A4 (L.take i++L.drop (i+1)))) (λx=>[(5,.int .i64 L.length),(6,.slice p L.length c),(9,.pointer (some ⟨A,0,none⟩)),(10,.pointer (some ⟨x.1,0,none⟩))]) ?_ ?_
 ·clear hA al gm b7 b6;refine CW.drawG (Ah w9) 12 (λw' h=>h) AdX λwa bg=>?_;have hE:=bg;refine ZM 1 ?_;refine ZM 2 ?_;refine GW.take 3 rfl rfl rfl rfl (λw' _=>Y.slice_hi (j:=i) rfl rfl rfl rfl rfl AdV) rfl rfl AdX AdX AdX (λ_ _ _ h=>h) ?_;refine ZM 5 ?_;refine ZM 6 ?_;refine GW.take 7 rfl rfl rfl rfl (λw' _=>Y.go rfl (by first | omega | exact⟨by omega,by omega⟩)) rfl rfl AdX AdX AdX (λ_ _ _ h=>h) ?_;refine GW.take 8 rfl rfl rfl rfl (λw' _=>Y.slice_from (i:=i+1) rfl rfl rfl rfl rfl AdV) rfl rfl AdX AdX AdX (λ_ _ _ h=>h) ?_;refine GW.two 0 11 AdX rfl rfl rfl rfl rfl rfl (λhS=>?_) (λhS=>?_)
  ·(apply LW.buildSlice0;exact rfl;exact rfl;exact rfl;exact rfl;intro A1 wt bh a3 bi)
   have hV:=Bk.one (DW.empty (lo:=w9.heap.size) bi AeD);have hE:=hE.trans a3;clear hS;apply LW.nil;refine QW.headed hE ?_;refine Ay ?_;refine GW.two 4 11 AdX rfl rfl rfl rfl rfl rfl (λhS=>?_) (λhS=>?_)
   ·have a8:=hV.lo;have a9:=hE.size;refine LW.pushSrc 0 hV (C6 (a:=i) (Ak.ext af hE) AdV) Aey a9 Ael ?_;intro u4 wt hc hu hV;rw[A9,A9] at hV;replace hV:Bk wt w9.heap.size (λ_:Fin 1=>u4) (λ_=>L.take i):=hV;have hE:=hE.step hc a8;clear hS;apply LW.nil;refine QW.headed hE ?_;refine Ay ?_;refine GW.two 9 11 AdX rfl rfl rfl rfl rfl rfl (λhS=>?_) (λhS=>?_)
    ·have a8:=hV.lo;have a9:=hE.size;refine LW.pushSrc 0 hV (Bo (a:=i+1) (Ak.ext af hE) AdV ae) Ae2 a9 Aeu ?_;intro u5 wt hc hu hV;rw[A9,A9] at hV;replace hV:Bk wt w9.heap.size (λ_:Fin 1=>u5) (λ_=>L.take i++L.drop (i+1)):=hV;have hE:=hE.step hc a8;clear hS;apply LW.nil;refine QW.headed hE ?_;refine Ay ?_;refine GW.two 10 11 AdX rfl rfl rfl rfl rfl rfl (λhS=>?_) (λhS=>?_)
     ·refine Ar rfl rfl (An (L.take i++L.drop (i+1)) _ _ (DW.texts (hV.own 0) Aex (λt ht=>by
       rcases AaC.1 ht with h | h
       ·exact a6 t (AbD h)
       ·exact a6 t (AbE h))) AdY) ?_
      rintro u6 wt ⟨bv,rfl,hs,a3⟩;obtain⟨bp,bc,rfl⟩:=Ab.slice hs;replace hV:=by first | exact hV.ext a3 | exact Ab.ext' hV a3 (λ_ _ _ _ h=>h) | exact Aa.ext hV a3
      have bj:=a3.size;have hE:=hE.trans a3;clear hS;apply LW.nil;refine QW.headed hE ?_;refine Ay ?_;refine Bd 11 λhS=>?_;refine Bt λB wl a7 a3 hB=>?_;have ag:=hB.lt;have ba:w9.heap.size≤B:=by rw[a7];exact hE.size
      first | (have hd:=Bk.nin hV (AbW a7.symm)) | skip
      replace hV:=by first | exact hV.ext a3 | exact Ab.ext' hV a3 (λ_ _ _ _ h=>h) | exact Aa.ext hV a3
      replace hs:=by first | exact hs.ext a3 | exact Ab.ext' hs a3 (λ_ _ _ _ h=>h) | exact Aa.ext hs a3
      have bk:=a3.size;have hE:=hE.trans a3;clear hS;apply LW.nil;refine QW.headed hE ?_;refine Ay ?_;refine GW.tail rfl AdX (λhS=>?_);have ah:=hB;refine AM λwe a4 hB=>?_;have hs:=Ax hs ah (AJ _) a4;have hE:=hE.step a4 AdY;refine Sw ?_;exact QW.head (B,bp,bc) ⟨hE,hB,hs⟩ Bx
     ·refine Bt λB wl a7 a3 hB=>?_;have ag:=hB.lt;have ba:w9.heap.size≤B:=by rw[a7];exact hE.size
      first | (have hd:=Bk.nin hV (AbW a7.symm)) | skip
      replace hV:=by first | exact hV.ext a3 | exact Ab.ext' hV a3 (λ_ _ _ _ h=>h) | exact Aa.ext hV a3
      have bl:=a3.size;have hE:=hE.trans a3;clear hS;apply LW.nil;refine QW.headed hE ?_;refine Ay ?_;refine Bd 10 λhS=>?_;refine Ar rfl rfl (An (L.take i++L.drop (i+1)) _ _ (DW.texts (hV.own 0) Aex (λt ht=>by
       rcases AaC.1 ht with h | h
       ·exact a6 t (AbD h)
       ·exact a6 t (AbE h))) AdY) ?_
      rintro u6 wt ⟨bv,rfl,hs,a3⟩;obtain⟨bp,bc,rfl⟩:=Ab.slice hs;replace hV:=by first | exact hV.ext a3 | exact Ab.ext' hV a3 (λ_ _ _ _ h=>h) | exact Aa.ext hV a3
      replace hB:=by first | exact hB.ext a3 | exact Ab.ext' hB a3 (λ_ _ _ _ h=>h) | exact Aa.ext hB a3
      have bm:=a3.size;have hE:=hE.trans a3;clear hS;apply LW.nil;refine QW.headed hE ?_;refine Ay ?_;refine GW.tail rfl AdX (λhS=>?_);have ah:=hB;refine AM λwe a4 hB=>?_;have hs:=Ax hs ah (AJ _) a4;have hE:=hE.step a4 AdY;refine Sw ?_;exact QW.head (B,bp,bc) ⟨hE,hB,hs⟩ Bx
    ·refine Bt λB wl a7 a3 hB=>?_;have ag:=hB.lt;have ba:w9.heap.size≤B:=by rw[a7];exact hE.size
     first | (have hd:=Bk.nin hV (AbW a7.symm)) | skip
     replace hV:=by first | exact hV.ext a3 | exact Ab.ext' hV a3 (λ_ _ _ _ h=>h) | exact Aa.ext hV a3
     have bn:=a3.size;have hE:=hE.trans a3;clear hS;apply LW.nil;refine QW.headed hE ?_;refine Ay ?_;refine Bd 9 λhS=>?_;have a8:=hV.lo;have a9:=hE.size;refine LW.pushSrc 0 hV (Bo (a:=i+1) (Ak.ext af hE) AdV ae) Ae2 a9 Aeu ?_;intro u5 wt hc hu hV;rw[A9,A9] at hV;replace hV:Bk wt w9.heap.size (λ_:Fin 1=>u5) (λ_=>L.take i++L.drop (i+1)):=hV;have hE:=hE.step hc a8;replace hB:=hB.chg hc hd;clear hS;apply LW.nil;refine QW.headed hE ?_;refine Ay ?_;refine Bd 10 λhS=>?_;refine Ar rfl rfl (An (L.take i++L.drop (i+1)) _ _ (DW.texts (hV.own 0) Aex (λt ht=>by
      rcases AaC.1 ht with h | h
      ·exact a6 t (AbD h)
      ·exact a6 t (AbE h))) AdY) ?_
     rintro u6 wt ⟨bv,rfl,hs,a3⟩;obtain⟨bp,bc,rfl⟩:=Ab.slice hs;replace hV:=by first | exact hV.ext a3 | exact Ab.ext' hV a3 (λ_ _ _ _ h=>h) | exact Aa.ext hV a3
     replace hB:=by first | exact hB.ext a3 | exact Ab.ext' hB a3 (λ_ _ _ _ h=>h) | exact Aa.ext hB a3
     have bo:=a3.size;have hE:=hE.trans a3;clear hS;apply LW.nil;refine QW.headed hE ?_;refine Ay ?_;refine GW.tail rfl AdX (λhS=>?_);have ah:=hB;refine AM λwe a4 hB=>?_;have hs:=Ax hs ah (AJ _) a4;have hE:=hE.step a4 AdY;refine Sw ?_;exact QW.head (B,bp,bc) ⟨hE,hB,hs⟩ Bx
   ·refine Bt λB wl a7 a3 hB=>?_;have ag:=hB.lt;have ba:w9.heap.size≤B:=by rw[a7];exact hE.size
    first | (have hd:=Bk.nin hV (AbW a7.symm)) | skip
    replace hV:=by first | exact hV.ext a3 | exact Ab.ext' hV a3 (λ_ _ _ _ h=>h) | exact Aa.ext hV a3
    have bq:=a3.size;have hE:=hE.trans a3;clear hS;apply LW.nil;refine QW.headed hE ?_;refine Ay ?_;refine Bd 4 λhS=>?_;have a8:=hV.lo;have a9:=hE.size;have ci:=hB.lt;refine LW.pushSrc 0 hV (C6 (a:=i) (Ak.ext af hE) AdV) Aey a9 Ael ?_;intro u4 wt hc hu hV;rw[A9,A9] at hV;replace hV:Bk wt w9.heap.size (λ_:Fin 1=>u4) (λ_=>L.take i):=hV;have hE:=hE.step hc a8;replace hB:=hB.chg hc hd;have hd:B∉Ac ((λ_:Fin 1=>u4) 0):=λhm=>(hu _ hm).elim hd λh=>by omega
    clear hS;apply LW.nil;refine QW.headed hE ?_;refine Ay ?_;refine Bd 9 λhS=>?_;have a8:=hV.lo;have a9:=hE.size;refine LW.pushSrc 0 hV (Bo (a:=i+1) (Ak.ext af hE) AdV ae) Ae2 a9 Aeu ?_;intro u5 wt hc hu hV;rw[A9,A9] at hV;replace hV:Bk wt w9.heap.size (λ_:Fin 1=>u5) (λ_=>L.take i++L.drop (i+1)):=hV;have hE:=hE.step hc a8;replace hB:=hB.chg hc hd;clear hS;apply LW.nil;refine QW.headed hE ?_;refine Ay ?_;refine Bd 10 λhS=>?_;refine Ar rfl rfl (An (L.take i++L.drop (i+1)) _ _ (DW.texts (hV.own 0) Aex (λt ht=>by
     rcases AaC.1 ht with h | h
     ·exact a6 t (AbD h)
     ·exact a6 t (AbE h))) AdY) ?_
    rintro u6 wt ⟨bv,rfl,hs,a3⟩;obtain⟨bp,bc,rfl⟩:=Ab.slice hs;replace hV:=by first | exact hV.ext a3 | exact Ab.ext' hV a3 (λ_ _ _ _ h=>h) | exact Aa.ext hV a3
    replace hB:=by first | exact hB.ext a3 | exact Ab.ext' hB a3 (λ_ _ _ _ h=>h) | exact Aa.ext hB a3
    have br:=a3.size;have hE:=hE.trans a3;clear hS;apply LW.nil;refine QW.headed hE ?_;refine Ay ?_;refine GW.tail rfl AdX (λhS=>?_);have ah:=hB;refine AM λwe a4 hB=>?_;have hs:=Ax hs ah (AJ _) a4;have hE:=hE.step a4 AdY;refine Sw ?_;exact QW.head (B,bp,bc) ⟨hE,hB,hs⟩ Bx
  ·refine Bt λB wl a7 a3 hB=>?_;have ag:=hB.lt;have ba:w9.heap.size≤B:=by rw[a7];exact hE.size
   first | (have hd:=Bk.nin hV (AbW a7.symm)) | skip
   have cj:=a3.size;have hE:=hE.trans a3;clear hS;apply LW.nil;refine QW.headed hE ?_;refine Ay ?_;refine Bd 0 λhS=>?_
   (apply LW.buildSlice0;exact rfl;exact rfl;exact rfl;exact rfl;intro A1 wt bh a3 bi)
   have hV:=Bk.one (DW.empty (lo:=w9.heap.size) bi AeD);have hE:=hE.trans a3;have hd:B∉Ac ((λ_:Fin 1=>Value.slice (some ⟨A1,0,none⟩) 0 0) 0):=by have:=hB.lt;show B∉[A1];simp;omega
   replace hB:=hB.ext a3;clear hS;apply LW.nil;refine QW.headed hE ?_;refine Ay ?_;refine Bd 4 λhS=>?_;have a8:=hV.lo;have a9:=hE.size;have ci:=hB.lt;refine LW.pushSrc 0 hV (C6 (a:=i) (Ak.ext af hE) AdV) Aey a9 Ael ?_;intro u4 wt hc hu hV;rw[A9,A9] at hV;replace hV:Bk wt w9.heap.size (λ_:Fin 1=>u4) (λ_=>L.take i):=hV;have hE:=hE.step hc a8;replace hB:=hB.chg hc hd;have hd:B∉Ac ((λ_:Fin 1=>u4) 0):=λhm=>(hu _ hm).elim hd λh=>by omega
   clear hS;apply LW.nil;refine QW.headed hE ?_;refine Ay ?_;refine Bd 9 λhS=>?_;have a8:=hV.lo;have a9:=hE.size;refine LW.pushSrc 0 hV (Bo (a:=i+1) (Ak.ext af hE) AdV ae) Ae2 a9 Aeu ?_;intro u5 wt hc hu hV;rw[A9,A9] at hV;replace hV:Bk wt w9.heap.size (λ_:Fin 1=>u5) (λ_=>L.take i++L.drop (i+1)):=hV;have hE:=hE.step hc a8;replace hB:=hB.chg hc hd;clear hS;apply LW.nil;refine QW.headed hE ?_;refine Ay ?_;refine Bd 10 λhS=>?_;refine Ar rfl rfl (An (L.take i++L.drop (i+1)) _ _ (DW.texts (hV.own 0) Aex (λt ht=>by
    rcases AaC.1 ht with h | h
    ·exact a6 t (AbD h)
    ·exact a6 t (AbE h))) AdY) ?_
   rintro u6 wt ⟨bv,rfl,hs,a3⟩;obtain⟨bp,bc,rfl⟩:=Ab.slice hs;replace hV:=by first | exact hV.ext a3 | exact Ab.ext' hV a3 (λ_ _ _ _ h=>h) | exact Aa.ext hV a3
   replace hB:=by first | exact hB.ext a3 | exact Ab.ext' hB a3 (λ_ _ _ _ h=>h) | exact Aa.ext hB a3
   have c1:=a3.size;have hE:=hE.trans a3;clear hS;apply LW.nil;refine QW.headed hE ?_;refine Ay ?_;refine GW.tail rfl AdX (λhS=>?_);have ah:=hB;refine AM λwe a4 hB=>?_;have hs:=Ax hs ah (AJ _) a4;have hE:=hE.step a4 AdY;refine Sw ?_;exact QW.head (B,bp,bc) ⟨hE,hB,hs⟩ Bx
 rintro⟨B,bp,bc⟩ ax ⟨ad,c2,ay⟩;dsimp only at c2 ay;show CW _ _ _ _ _ [(5,.int .i64 L.length),(6,.slice p L.length c),(9,.pointer (some ⟨A,0,none⟩)),(10,.pointer (some ⟨B,0,none⟩))] _;have al:=al.ext ad;have hA:=Aa.ext hA ad;have ao:=Ak.ext af ad;have a5:=aw.trans ad;clear af ad aw;refine CW.seq_cut (ι:=Nat×Option Addr×Nat×Option Addr×Nat) (λx w'=>Ah ax w'∧Blk w' x.1 [.slice x.2.1 1 x.2.2.1] 24∧AR w' (.slice x.2.1 1 x.2.2.1) (A4 W)) (λx=>[(5,.int .i64 L.length),(11,.pointer (some ⟨x.1,0,none⟩)),(12,.slice x.2.2.2.1 0 x.2.2.2.2),(13,.int .i64 0)]) ?_ ?_
 ·refine CW.drawG (Ah ax) 12 (λw' h=>h) AdX λwa bg=>?_;have hE:=bg;clear b7 b6 a6;refine Ay ?_;refine GW.two 1 9 AdX rfl rfl rfl rfl rfl rfl (λhS=>?_) (λhS=>?_)
  ·refine Ar rfl rfl (An L _ _ (Ak.ext ao hE) AdV) ?_;rintro u7 wt ⟨ov,rfl,ho,a3⟩;have bj:=a3.size;have hE:=hE.trans a3;clear hS;apply LW.nil;refine QW.headed hE ?_;refine Ay ?_;refine GW.two 4 9 AdX rfl rfl rfl rfl rfl rfl (λhS=>?_) (λhS=>?_)
   ·have t:=E9 (A4 L) (A4 (L++[Fq i])) (A4 (L.take i++L.drop (i+1))) ov _ _ _ (g.ext (a5.trans hE)) ho (Aa.ext hA hE) (Aa.ext ay hE);rw[gm] at t;refine Ar rfl rfl t ?_;rintro u8 wt ⟨mv,cv,rfl,hm,hC,a3⟩;obtain⟨cp,cc,rfl⟩:=DZ hC;obtain⟨mp,mc,rfl⟩:=Ab.slice hm;replace ho:=by first | exact ho.ext a3 | exact Ab.ext' ho a3 (λ_ _ _ _ h=>h) | exact Aa.ext ho a3
    have bk:=a3.size;have hE:=hE.trans a3;clear hS;apply LW.nil;refine QW.headed hE ?_;refine Ay ?_;refine Bd 9 λhS=>?_;refine Bt λM wl az a3 hM=>?_;have b0:=hM.lt;have c3:ax.heap.size≤M:=by rw[az];exact hE.size
    replace ho:=by first | exact ho.ext a3 | exact Ab.ext' ho a3 (λ_ _ _ _ h=>h) | exact Aa.ext ho a3
    replace hm:=by first | exact hm.ext a3 | exact Ab.ext' hm a3 (λ_ _ _ _ h=>h) | exact Aa.ext hm a3
    have bl:=a3.size;have hE:=hE.trans a3;clear hS;apply LW.nil;refine QW.headed hE ?_;refine Ay ?_;refine Bd 10 λhS=>?_;have b1:=hM;refine AM λwe a4 hM=>?_;have hm:=Ax hm b1 (AJ _) a4;have hE:=hE.step a4 AdY;clear hS;apply LW.nil;refine QW.headed hE ?_;refine Ay ?_;refine GW.tail rfl AdX (λhS=>?_);refine Sw ?_;exact QW.head (M,mp,mc,cp,cc) ⟨hE,hM,hm⟩ Bx
   ·refine Bt λM wl az a3 hM=>?_;have b0:=hM.lt;have c3:ax.heap.size≤M:=by rw[az];exact hE.size
    replace ho:=by first | exact ho.ext a3 | exact Ab.ext' ho a3 (λ_ _ _ _ h=>h) | exact Aa.ext ho a3
    have bm:=a3.size;have hE:=hE.trans a3;clear hS;apply LW.nil;refine QW.headed hE ?_;refine Ay ?_;refine Bd 4 λhS=>?_;have t:=E9 (A4 L) (A4 (L++[Fq i])) (A4 (L.take i++L.drop (i+1))) ov _ _ _ (g.ext (a5.trans hE)) ho (Aa.ext hA hE) (Aa.ext ay hE);rw[gm] at t;refine Ar rfl rfl t ?_;rintro u8 wt ⟨mv,cv,rfl,hm,hC,a3⟩;obtain⟨cp,cc,rfl⟩:=DZ hC;obtain⟨mp,mc,rfl⟩:=Ab.slice hm;replace ho:=by first | exact ho.ext a3 | exact Ab.ext' ho a3 (λ_ _ _ _ h=>h) | exact Aa.ext ho a3
    replace hM:=by first | exact hM.ext a3 | exact Ab.ext' hM a3 (λ_ _ _ _ h=>h) | exact Aa.ext hM a3
    have bn:=a3.size;have hE:=hE.trans a3;clear hS;apply LW.nil;refine QW.headed hE ?_;refine Ay ?_;refine Bd 10 λhS=>?_;have b1:=hM;refine AM λwe a4 hM=>?_;have hm:=Ax hm b1 (AJ _) a4;have hE:=hE.step a4 AdY;clear hS;apply LW.nil;refine QW.headed hE ?_;refine Ay ?_;refine GW.tail rfl AdX (λhS=>?_);refine Sw ?_;exact QW.head (M,mp,mc,cp,cc) ⟨hE,hM,hm⟩ Bx
  ·refine Bt λM wl az a3 hM=>?_;have b0:=hM.lt;have c3:ax.heap.size≤M:=by rw[az];exact hE.size
   have bo:=a3.size;have hE:=hE.trans a3;clear hS;apply LW.nil;refine QW.headed hE ?_;refine Ay ?_;refine Bd 1 λhS=>?_;refine Ar rfl rfl (An L _ _ (Ak.ext ao hE) AdV) ?_;rintro u7 wt ⟨ov,rfl,ho,a3⟩;replace hM:=by first | exact hM.ext a3 | exact Ab.ext' hM a3 (λ_ _ _ _ h=>h) | exact Aa.ext hM a3
   have bq:=a3.size;have hE:=hE.trans a3;clear hS;apply LW.nil;refine QW.headed hE ?_;refine Ay ?_;refine Bd 4 λhS=>?_;have t:=E9 (A4 L) (A4 (L++[Fq i])) (A4 (L.take i++L.drop (i+1))) ov _ _ _ (g.ext (a5.trans hE)) ho (Aa.ext hA hE) (Aa.ext ay hE);rw[gm] at t;refine Ar rfl rfl t ?_;rintro u8 wt ⟨mv,cv,rfl,hm,hC,a3⟩;obtain⟨cp,cc,rfl⟩:=DZ hC;obtain⟨mp,mc,rfl⟩:=Ab.slice hm;replace ho:=by first | exact ho.ext a3 | exact Ab.ext' ho a3 (λ_ _ _ _ h=>h) | exact Aa.ext ho a3
   replace hM:=by first | exact hM.ext a3 | exact Ab.ext' hM a3 (λ_ _ _ _ h=>h) | exact Aa.ext hM a3
   have br:=a3.size;have hE:=hE.trans a3;clear hS;apply LW.nil;refine QW.headed hE ?_;refine Ay ?_;refine Bd 10 λhS=>?_;have b1:=hM;refine AM λwe a4 hM=>?_;have hm:=Ax hm b1 (AJ _) a4;have hE:=hE.step a4 AdY;clear hS;apply LW.nil;refine QW.headed hE ?_;refine Ay ?_;refine GW.tail rfl AdX (λhS=>?_);refine Sw ?_;exact QW.head (M,mp,mc,cp,cc) ⟨hE,hM,hm⟩ Bx
 rintro⟨M,mp,mc,cp,cc⟩ c4 ⟨b2,hM,hm⟩;dsimp only at hM hm;show CW _ _ _ _ _ [(5,.int .i64 L.length),(11,.pointer (some ⟨M,0,none⟩)),(12,.slice cp 0 cc),(13,.int .i64 0)] _;have aj:=a5.trans b2;obtain⟨a0,q0,k0,rfl,-,-,hR,hc⟩:=Aa.at (i:=0) hm rfl;have bb:=hc 2 _ rfl;have c5:(W.map λt=>[t]).length=L.length:=by rw[Abr,b6]
 obtain⟨a1,q1,k1,rfl,-,c6,ai⟩:=Bn.at (i:=L.length - 1) hR (show(W.map λt=>[t])[L.length - 1]?=some [QP] by rw[AbH,b7];rfl);obtain⟨a2,rfl,-,-,b5⟩:=Ak.at (i:=0) c6 rfl;replace bb:c4.cell? ((a0.add (((0:Nat):Int).toNat*3)).add 2)=some (.slice (some a1) L.length k0):=by rw[←c5];exact bb
 rw[←show((L.length:Int) - 1)=((L.length - 1:Nat):Int) by omega] at ai;replace ai:c4.cell? (a1.add (((L.length:Int) - 1).toNat*1))=some (.slice (some a2) 1 k1):=ai;clear hm hR hc c6 c5 gm hA ay al c2 ao b7 b6 a6 a5 b2;refine Sw ?_;refine Ar rfl rfl (I5 0 _) ?_;rintro u9 cs ⟨rfl,aa⟩;replace hM:=hM.ext aa;replace bb:=AC aa bb;replace ai:=AC aa ai;replace b5:=AC aa b5;refine Sw ?_;refine AB (λh2=>?_) λh2=>?_
 ·exfalso;simp at h2
 clear h2;refine Sw ?_;refine LW.know (t:=100) (c:=true) rfl AdZ ?_;refine Sw ?_;refine Ar rfl rfl (EQ _ (g.ext (aj.trans aa))) ?_;rintro u10 ct ⟨rfl,ab⟩;refine Sw ?_;exact QW.body1 rfl rfl ⟨rfl,(aj.trans aa).trans ab⟩
end Go.Proofs.YtcjjcnecopnpcaaGreatDoor
