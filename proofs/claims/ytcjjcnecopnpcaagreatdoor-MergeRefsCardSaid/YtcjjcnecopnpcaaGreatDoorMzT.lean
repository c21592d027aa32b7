/-
  Joined by program out of the texts OneD OneP Law20 Ex20 Law20A DW MerR Law20L0.
-/
import Derived.Test.YtcjjcnecopnpcaaGreatDoorMzM
import Derived.Test.YtcjjcnecopnpcaaGreatDoorMzJ
import Derived.Test.YtcjjcnecopnpcaaGreatDoorMzS
import Derived.Test.YtcjjcnecopnpcaaGreatDoorMzB
import Derived.Test.YtcjjcnecopnpcaaGreatDoorMzK
namespace Go.Proofs.YtcjjcnecopnpcaaGreatDoor
open Tryz
open Go Go.E
def A4(l:List (List UInt8)):Ao:=[⟨[65],1,l.map λt=>[t]⟩]
theorem IV{l:List (List UInt8)}(hl:l.length≤24)(h:∀t∈l,Cs t=true):Aw (A4 l)=true:=by
 refine Co.2 ⟨by simp[A4],λs hs=>?_,by simp[A4]⟩;rw[B3.1 hs];refine B1.2 ⟨by show DM [65]=true;decide,by show(0:Int)≤1;decide,by show(1:Int)≤12;decide,by simpa using hl,λr hr=>?_⟩;obtain⟨t,ht,rfl⟩:=AbJ.1 hr;exact⟨rfl,λu hu=>by rw[B3.1 hu];exact h t ht⟩
theorem PD{ss:List Bl}{l:List (List UInt8)}(h:∀t∈l,Ai t 0≠61):Ch ss (A4 l)=A4 l:=by
 show[NU ss _]=_;unfold A4 NU
 congr 2
 rw[Adn];refine Acq λt ht=>?_;show Kg _ ss [t]=[t];unfold Kg;rw[Acb,Ac3,EF (.inr (.inl (h t ht)))]
section
variable {α:Type} [DecidableEq α]
theorem FM:∀(a b:List α),BI a b≤a.length∧BI a b≤b.length
 | [],_=>by simp[BI]
 | _::_,[]=>by simp[BI]
 | x::a,y::b=>by
  have h1:=FM a b;have h2:=FM a (y::b);have h3:=FM (x::a) b;simp only[BI,AaF] at *
  split<;>omega
 termination_by a b=>a.length+b.length
theorem P8:∀{a b:List α},a.Sublist b→BI a b=a.length
 | [],_,_=>by simp[BI]
 | x::a,[],h=>by cases h
 | x::a,y::b,h=>by
  rw[BI];by_cases e:x=y
  ·subst e;rw[if_pos rfl,P8 (AcZ.1 h),AaF]
  ·have h:(x::a).Sublist b:=by
    cases h with
    | cons _ h=>exact h
    | cons_cons _ h=>exact absurd rfl e
   have h1:=P8 h;have h2:=FM a (y::b);rw[if_neg e,h1];simp only[AaF] at *;omega
 termination_by a b=>a.length+b.length
theorem P7:∀{a b:List α},b.Sublist a→BI a b=b.length
 | [],b,h=>by
  cases h
  simp[BI]
 | x::a,[],h=>by simp[BI]
 | x::a,y::b,h=>by
  rw[BI];by_cases e:x=y
  ·subst e;rw[if_pos rfl,P7 (AcZ.1 h),AaF]
  ·have h:(y::b).Sublist a:=by
    cases h with
    | cons _ h=>exact h
    | cons_cons _ h=>exact absurd rfl e
   have h1:=P7 h;have h2:=FM (x::a) b;rw[if_neg e,h1];simp only[AaF] at *;omega
 termination_by a b=>a.length+b.length
def upN:List α→List α→Nat→List Int
 | a,[],_=>List.replicate a.length (-1)
 | [],_::_,_=>[]
 | x::a,y::b,k=>if x=y then(k:Int)::upN a b (k+1) else upN (x::a) b (k+1)
def ZW:List α→List α→Nat→List Int
 | [],_,_=>[]
 | _::a,[],k=>-1::ZW a [] k
 | x::a,y::b,k=>if x=y then(k:Int)::ZW a b (k+1) else -1::ZW a (y::b) k
theorem PA:∀{a b:List α} {k:Nat},a.Sublist b→Gd a b k=upN a b k
 | [],[],k,_=>by simp[Gd,upN]
 | [],y::b,k,_=>by simp[Gd,upN]
 | x::a,[],k,h=>by cases h
 | x::a,y::b,k,h=>by
  rw[Gd,upN];by_cases e:x=y
  ·subst e;rw[if_pos rfl,if_pos rfl,PA (AcZ.1 h)]
  ·have h:(x::a).Sublist b:=by
    cases h with
    | cons _ h=>exact h
    | cons_cons _ h=>exact absurd rfl e
   have h1:=P8 h;have h2:=FM a (y::b);rw[if_neg e,if_neg e,if_neg (by simp only[AaF] at *;omega),PA h]
 termination_by a b=>a.length+b.length
theorem Mb:∀{a b:List α} {k:Nat},b.Sublist a→Gd a b k=ZW a b k
 | [],b,k,h=>by simp[Gd,ZW]
 | x::a,[],k,h=>by rw[Gd,ZW,Mb (List.nil_sublist a)]
 | x::a,y::b,k,h=>by
  rw[Gd,ZW];by_cases e:x=y
  ·subst e;rw[if_pos rfl,if_pos rfl,Mb (AcZ.1 h)]
  ·have h:(y::b).Sublist a:=by
    cases h with
    | cons _ h=>exact h
    | cons_cons _ h=>exact absurd rfl e
   have h1:=P7 h;have h2:=FM (x::a) b;rw[if_neg e,if_neg e,if_pos (by simp only[AaF] at *;omega),Mb h]
 termination_by a b=>a.length+b.length
def YH(a b:List α):List Int:=DI b.length 0 (upN a b 0)
def dnP(a b:List α):List Int:=DI b.length 0 (ZW a b 0)
theorem EJ{a b:List α}(h:a.Sublist b):AU a b=YH a b:=by rw[AU,J0,PA h,YH]
theorem VS{a b:List α}(h:b.Sublist a):AU a b=dnP a b:=by rw[AU,J0,Mb h,dnP]
theorem Tu(p q:α):AU [p] [q]=[0]:=by
 by_cases h:p=q
 ·subst h;rw[PN];rfl
 ·simp[AU,AG,BJ,DI,CZ,BI,h]
end
def FH(l:List (List UInt8)):Af:=⟨[65],1,l.map λt=>[t]⟩
theorem Ue{t:List UInt8}(h:t≠[]):D4 [t]=Fj [t]:=by rw[D4,AdM AeQ];rfl
theorem Zg{u v:List UInt8}(hu:u≠[])(hv:v≠[])(lu:u.length≤300)(lv:v.length≤300)(h:D4 [u]=D4 [v]):u=v:=by
 rw[Ue hu,Ue hv] at h;have s:∀{t:List UInt8},t.length≤300→∀s∈[t],s.length<128 ^ 9:=λht s hs=>by
  rw[B3.1 hs];exact Nat.lt_of_le_of_lt ht AdZ
 have:=Yi (l:=[u]) (m:=[v]) Aei (s lu) Aei (s lv) h
 simpa using this
structure JI(S:List Nat)(f:Nat→List UInt8):Prop where
 inj:∀s∈S,∀t∈S,f s=f t→s=t
 some:∀s∈S,f s≠[]
 may:∀s∈S,Cs (f s)=true
theorem Xa{S:List Nat}{f:Nat→List UInt8}(h:JI S f){a b:List Nat}(ha:a ⊆ S)(hb:b ⊆ S):Bb (FH (a.map f)) (FH (b.map f))=AU a b:=by
 have e:∀l:List Nat,(FH (l.map f)).rows.map D4=l.map λx=>D4 [f x]:=λl=>by
  show(((l.map f).map λt=>[t]).map D4)=_;rw[Adn,Adn];rfl
 rw[Bb,e,e];exact Rw a b λx hx y hy he=>h.inj x (ha hx) y (hb hy) (Zg (h.some x (ha hx)) (h.some y (hb hy)) (GI (h.may x (ha hx))) (GI (h.may y (hb hy))) he)
theorem WY(u v:List (List UInt8))(m:List Int):DE (FH u) (FH v) m=[0]:=Tu _ _
def Ft(r:D8):AF:=⟨[65],r.now,1,0,false,false,⟨[65],⟨r.o,r.now⟩,⟨[0],1⟩,false⟩,⟨[65],⟨r.x,r.now⟩,⟨[0],1⟩,false⟩,⟨[65],⟨r.y,r.now⟩,⟨[0],1⟩,false⟩⟩
theorem Xu:A8 ⟨[0],1⟩ ⟨[0],1⟩=⟨[0],[0],[0],1⟩:=rfl
theorem On{S:List Nat}{f:Nat→List UInt8}(h:JI S f){a b:List Nat}(ha:a ⊆ S)(hb:b ⊆ S){t:List Int}(e:AU a b=t):Aj (FH (a.map f)) (FH (b.map f))=⟨[65],⟨t,b.length⟩,⟨[0],1⟩,false⟩:=by
 unfold Aj;rw[Xa h ha hb,WY,e];have:(FH (b.map f)).rows.length=b.length:=by simp[FH]
 rw[this];rfl
theorem Q7{S:List Nat}{f:Nat→List UInt8}(h:JI S f){o x y:List Nat}(ho:o ⊆ S)(hx:x ⊆ S)(hy:y ⊆ S){tx ty:List Int}(ex:AU o x=tx)(ey:AU o y=ty):Dx [65] (FH (o.map f)) (FH (x.map f)) (FH (y.map f))=Ft (A8 ⟨tx,x.length⟩ ⟨ty,y.length⟩):=by
 unfold Dx;rw[On h ho hx ex,On h ho hy ey];dsimp only;rw[Xu];rfl
theorem WZ{S:List Nat}{f:Nat→List UInt8}(h:JI S f):∀{x y:List Nat},x ⊆ S→y ⊆ S→x≠y→FH (x.map f)≠FH (y.map f):=by
 intro x y hx hy a0 e;have e:(x.map f).map (λt=>[t])=(y.map f).map (λt=>[t]):=congrArg Af.rows e;have e:x.map f=y.map f:=List.map_inj_right (by intro a b h;simpa using h) |>.1 e;apply a0;have:∀{x y:List Nat},x ⊆ S→y ⊆ S→x.map f=y.map f→x=y:=λ{x}=>by
  induction x with
  | nil=>intro y _ _ e;cases y with
   | nil=>rfl
   | cons b y=>cases e
  | cons a x ih=>intro y hx hy e;cases y with
   | nil=>cases e
   | cons b y=>
    simp only[Acb,Ac7] at e;rw[h.inj a (hx (Ab6 ..)) b (hy (Ab6 ..)) e.1,ih (λz hz=>hx (Abk _ hz)) (λz hz=>hy (Abk _ hz)) e.2]
 exact this hx hy e
theorem Om{u v w:List (List UInt8)}(hne:FH v≠FH w):DS (A4 u) (A4 v) (A4 w)=[Dx [65] (FH u) (FH v) (FH w)]:=by
 have e:∀l,BE (A4 l) [65]=some (FH l):=λl=>rfl;have e2:Gx (A4 u) (A4 v) (A4 w)=[[65]]:=rfl;rw[DS,e2,Acb,Ac3,e,e,e,BN,if_neg hne]
def Fs(l:List Nat)(to:List Int)(r:Nat):Option Nat:=(Dl to r).map λi=>l.getD i 0
def Ol(old x y:Option Nat):Nat×Bool:=match x,y with
 | none,y=>(y.getD 0,false)
 | some x,none=>(x,false)
 | some x,some y=>if x=y∨old=some y then(x,false) else if old=some x then(y,false) else(x,true)
def HY(o x y:List Nat)(r:D8):List (Nat×Bool):=(List.range r.now).map λi=>Ol (Fs o r.o i) (Fs x r.x i) (Fs y r.y i)
theorem MB{g:Nat→List UInt8}(h0:g 0=[])(l:List Nat)(to:List Int)(now:Nat)(i:Nat):HF (A4 (l.map g)) ⟨[65],⟨to,now⟩,⟨[0],1⟩,false⟩ i 0=(Fs l to i).map g:=by
 have e:BE (A4 (l.map g)) [65]=some (FH (l.map g)):=rfl;have e2:Dl [0] ((0:Nat):Int)=some 0:=rfl;unfold HF Fs;rw[e];dsimp only;rw[if_neg Aei,e2]
 cases Dl to (i:Int) with
 | none=>rfl
 | some k=>
  show some (((((l.map g).map λt=>[t]).getD k []).getD 0 []))=some (g (l.getD k 0))
  congr 1
  simp only[AaE,AbH];cases l[k]?<;>simp[h0]
theorem WX{S:List Nat}{g:Nat→List UInt8}(hg:∀s∈S,∀t∈S,g s=g t→s=t)(h0:g 0=[]){old x y:Option Nat}(ho:∀s,old=some s→s∈S)(hx:∀s,x=some s→s∈S)(hy:∀s,y=some s→s∈S)(hc:(Ol old x y).2=false):DY (old.map g) (x.map g) (y.map g)=(g (Ol old x y).1,none):=by
 cases x with
 | none=>cases y with
  | none=>show([],none)=(g 0,none);rw[h0]
  | some y=>rfl
 | some x=>cases y with
  | none=>rfl
  | some y=>
   have k:∀{a b:Nat},a∈S→b∈S→(g a=g b↔a=b):=λha hb=>⟨hg _ ha _ hb,λe=>by rw[e]⟩;have k2:∀{b:Nat},b∈S→((old.map g=some (g b))↔old=some b):=λ{b} hb=>by
    cases old with
    | none=>simp
    | some a=>simp only[AbM,Aa3];exact k (ho a rfl) hb
   show(if g x=g y∨old.map g=some (g y) then(g x,none) else if old.map g=some (g x) then(g y,none) else(g x,some ((old.map g).getD [],g x,g y)))=_;unfold Ol at hc ⊢;dsimp only at hc ⊢;simp only[k (hx x rfl) (hy y rfl),k2 (hy y rfl),k2 (hx x rfl)]
   split
   ·rfl
   ·rename_i h1;rw[if_neg h1] at hc
    split
    ·rfl
    ·rename_i h2;rw[if_neg h2] at hc;cases hc
theorem KB{S:List Nat}{l:List Nat}(hl:l ⊆ S)(hz:0∈S){to:List Int}{i s:Nat}(h:Fs l to i=some s):s∈S:=by
 unfold Fs at h
 cases e:Dl to (i:Int) with
 | none=>rw[e] at h;cases h
 | some k=>
  rw[e] at h;have h:l.getD k 0=s:=Ab9 h;rw[←h,AaE]
  cases e2:l[k]? with
  | none=>exact hz
  | some t=>exact hl (Ab7 e2)
theorem VM{S:List Nat}{f:Nat→List UInt8}(h:JI S f){o x y:List Nat}(ho:o ⊆ S)(hx:x ⊆ S)(hy:y ⊆ S)(lo:o.length≤24)(lx:x.length≤24)(ly:y.length≤24)(hne:x≠y){mx my:List Int}(ex:AU o x=mx)(ey:AU o y=my)(hl:24<(A8 ⟨mx,x.length⟩ ⟨my,y.length⟩).now) :
  CN (A4 (o.map f)) (A4 (x.map f)) (A4 (y.map f))=⟨[],[],4⟩:=by
 have may:∀{l:List Nat},l ⊆ S→l.length≤24→Aw (A4 (l.map f))=true:=λ{l} hl hn=>IV (by simpa using hn) λt ht=>by
  obtain⟨s,hs,rfl⟩:=AbJ.1 ht;exact h.may s (hl hs)
 have ep:DS (A4 (o.map f)) (A4 (x.map f)) (A4 (y.map f))=[Ft (A8 ⟨mx,x.length⟩ ⟨my,y.length⟩)]:=by rw[Om (WZ h hx hy hne),Q7 h ho hx hy ex ey]
 rw[CN,if_pos ⟨may ho lo,may hx lx,may hy ly⟩,ep,if_pos];show(((decide (24<(((A8 ⟨mx,x.length⟩ ⟨my,y.length⟩).now:Nat):Int))||decide ((12:Int)<1))||false)||decide (5<1))=true;simp;omega
theorem OK{S T:List Nat}{f g:Nat→List UInt8}(h:JI S f)(hg:∀s∈0::T,∀t∈0::T,g s=g t→s=t)(h0:g 0=[]){o x y:List Nat}(ho:o ⊆ S)(hx:x ⊆ S)(hy:y ⊆ S)(to:o ⊆ T)(tx:x ⊆ T)(ty:y ⊆ T)(lo:o.length≤24)(lx:x.length≤24)(ly:y.length≤24)(hne:x≠y){mx my:List Int}(ex:AU o x=mx)(ey:AU o y=my){r:D8}(er:A8 ⟨mx,x.length⟩ ⟨my,y.length⟩=r)
  (so:E3 (A4 (o.map f)) [(Ft r).o]=A4 (o.map g)) (sx:E3 (A4 (x.map f)) [(Ft r).a]=A4 (x.map g)) (sy:E3 (A4 (y.map f)) [(Ft r).b]=A4 (y.map g)) {want:List Nat} (hw:HY o x y r=want.map λt=>(t,false)) :
  CN (A4 (o.map f)) (A4 (x.map f)) (A4 (y.map f))=if 24<r.now then⟨[],[],4⟩ else⟨A4 (want.map g),[],0⟩:=by
 have may:∀{l:List Nat},l ⊆ S→l.length≤24→Aw (A4 (l.map f))=true:=λ{l} hl hn=>IV (by simpa using hn) λt ht=>by
  obtain⟨s,hs,rfl⟩:=AbJ.1 ht;exact h.may s (hl hs)
 have ep:DS (A4 (o.map f)) (A4 (x.map f)) (A4 (y.map f))=[Ft r]:=by rw[Om (WZ h hx hy hne),Q7 h ho hx hy ex ey,er]
 have el:Ju [Ft r]=decide (24<r.now):=by
  show(((decide (24<((r.now:Nat):Int))||decide ((12:Int)<1))||false)||decide (5<1))=_;simp;omega
 rw[CN,if_pos ⟨may ho lo,may hx lx,may hy ly⟩,ep,el];by_cases hl:24<r.now
 ·rw[if_pos (by simpa using hl),if_pos hl]
 rw[if_neg (by simpa using hl),if_neg hl];unfold MQ;rw[ep];simp only[Acb,Ac3];rw[so,sx,sy];have a2:r.now=want.length:=by
  have:=congrArg List.length hw
  simpa[HY] using this
 have key:∀i,i<r.now→Jo (Ft r) (A4 (o.map g)) (A4 (x.map g)) (A4 (y.map g)) i 0=(g (want.getD i 0),none):=λi hi=>by
  show DY (HF _ ⟨[65],⟨r.o,r.now⟩,⟨[0],1⟩,false⟩ i 0) (HF _ ⟨[65],⟨r.x,r.now⟩,⟨[0],1⟩,false⟩ i 0) (HF _ ⟨[65],⟨r.y,r.now⟩,⟨[0],1⟩,false⟩ i 0)=_;rw[MB h0,MB h0,MB h0];have a0:Ol (Fs o r.o i) (Fs x r.x i) (Fs y r.y i)=(want.getD i 0,false):=by
   have h1:(HY o x y r)[i]?=some (Ol (Fs o r.o i) (Fs x r.x i) (Fs y r.y i)):=by simp[HY,hi]
   have a1:i<want.length:=AdV
   rw[hw,AbH,B7 a1] at h1;rw[AaE,B7 a1];exact(Ab9 h1).symm
  have m:∀{l:List Nat},l ⊆ T→l ⊆ 0::T:=λhl z hz=>Abk _ (hl hz);have:=WX (S:=0::T) hg h0 (old:=Fs o r.o i) (x:=Fs x r.x i) (y:=Fs y r.y i) (λs hs=>KB (m to) (Ab6 ..) hs) (λs hs=>KB (m tx) (Ab6 ..) hs) (λs hs=>KB (m ty) (Ab6 ..) hs) (by rw[a0]);rw[this,a0]
 have hh:FL [Ft r]=[Ft r]:=rfl;rw[hh]
 congr 1
 ·show[Fm (Ft r) _ _ _]=[_]
  congr 1
  unfold Fm;show Af.mk [65] 1 ((List.range ((r.now:Nat):Int).toNat).map _)=Af.mk [65] 1 _
  congr 1
  apply AcC;intro i;rw[AbH,AbH,AbH,show((r.now:Nat):Int).toNat=r.now from rfl];by_cases hi:i<r.now
  ·rw[Adp hi,B7 (by omega:i<want.length)];show some [(Jo (Ft r) _ _ _ i 0).1]=some [g _];rw[key i hi,AaE,B7 (by omega:i<want.length)];rfl
  ·rw[AbI AeF,AbI (by omega:want.length≤i)];rfl
 ·show Jj (Ft r) _ _ _++[]=[];rw[AbG];unfold Jj;show[]++_=[];rw[AbR,AcU];intro i hi;have hi:i<r.now:=by have:=Acg.1 hi;exact this
  show(Q9 (Ft r) _ _ _ i 0++[])=[];rw[AbG];unfold Q9;rw[key i hi]
theorem Nb{S:List Nat}{f:Nat→List UInt8}{l:List Nat}(hl:l ⊆ S)(h:∀s∈S,Ai (f s) 0≠61)(ss:List Bl):E3 (A4 (l.map f)) ss=A4 (l.map f):=PD λt ht=>by
 obtain⟨s,hs,rfl⟩:=AbJ.1 ht;exact h s (hl hs)
set_option maxRecDepth 8000 in
set_option maxHeartbeats 2000000 in
theorem An(l:List (List UInt8))(v:Value)(w:World)(h:Bz w v l)(hl:l.length≤1000):AN prog 25 [v] w (λr w'=>∃sv,r=.agg ⟨[sv]⟩∧AR w' sv (A4 l)∧Ah w w'):=by
 obtain⟨p,c,rfl⟩:=h.slice;have b2:=h.2;refine Bq func25 ntmps25 ?_;refine Sa ?_;refine Bt λR w1 b3 ai hR=>?_;have b4:=ai.size;have b5:=hR.lt;refine Sa ?_;refine Bt λH w2 b6 aj hH=>?_;have b7:=aj.size;have b8:=hH.lt;refine Sa ?_;refine AM λw3 ak hH=>?_;replace hH:Blk w3 H [Av [65],.int .i64 1,.slice none 0 0] 46:=hH;have a1:Ah w1 w3:=aj.step ak AdY;have b9:=ak.size;have au:=hR.ext a1;have aa:=ai.trans a1;refine Sw ?_;refine CW.loop (ι:=Nat×Value) (λx w'=>x.1≤l.length∧Chg [H] w3 w'∧Blk w' H [Av [65],.int .i64 1,x.2] 46∧UF (R::H::Ac x.2) w3.heap.size w' x.2 ((l.take x.1).map λt=>[t])∧(l.take x.1).length=x.1) (λx=>[(0,.slice p l.length c),(2,.pointer (some ⟨R,0,none⟩)),(3,.pointer (some ⟨H,0,none⟩)),(4,.int .i64 (x.1:Int))]) (λx=>l.length - x.1) (0,.slice none 0 0) ⟨by omega,Chg.refl _ _,hH,As.nil,rfl⟩ Bx ?_;rintro⟨i,rv⟩ w4 ⟨hi,a5,al,a2,etk⟩;dsimp only at hi al a2 etk;show CW _ _ _ _ _ [(0,.slice p l.length c),(2,.pointer (some ⟨R,0,none⟩)),(3,.pointer (some ⟨H,0,none⟩)),(4,.int .i64 (i:Int))] _;obtain⟨rp,rc,rfl⟩:=As.slice a2;have ba:=a5.size;have a3:Ah w w4:=aa.step a5 AdY;have a6:=au.chg a5 AdY;refine Sw ?_;refine AB (λc1=>?_) λc1=>?_
 ·have c1:i<l.length:=by simp at c1;omega
  obtain⟨t,ht⟩:∃t,l[i]?=some t:=⟨_,B7 c1⟩;obtain⟨a,rfl,-,av,am⟩:=Ak.at h ht;have bb:=Ac5 w _ am;have aw:=AC a3 am;have nH:H∉Ac (Value.slice rp ((l.take i).map λt=>[t]).length rc):=λhm=>by have:=(As.lt a2 hm).1;omega
  obtain⟨css,g1,g2,g3,g4⟩:=a2;have an:l.take (i+1)=l.take i++[t]:=by rw[AbU,ht];rfl
  have nA:(a.add (((i:Nat):Int).toNat*1)).block∉Ac (Value.slice rp ((l.take i).map λt=>[t]).length rc):=λhm=>by have:=(g3.lt hm).1;omega
  refine Sw ?_;refine CW.drawG (Chg (Ac (Value.slice rp ((l.take i).map λt=>[t]).length rc)) w4) 9 (λw' h=>h.chg) AdX λwa ab=>?_;refine Sg ?_;refine Ay ?_;refine Bd 6 λhS=>?_;refine CF λD1 w5 bc a0 a7=>?_;replace a7:Blk w5 D1 [Av t] 9:=a7;have bd:=ab.size;have ax:=a0.size;have ay:=a7.lt;have hE:=hS.ext a0;clear hS;apply LW.nil;refine QW.headed hE ?_;refine Bd 7 λhS=>?_;refine CF λD2 w6 be a4 ac=>?_;replace ac:Blk w6 D2 [.slice (some ⟨D1,0,none⟩) 1 1] 47:=ac;have bf:=a4.size;have hE:=hE.ext a4;clear hS;apply LW.nil;refine QW.headed hE ?_;refine Bd 8 λhS=>?_;refine LW.append (lo:=w3.heap.size) (k:=((l.take i).map λt=>[t]).length) rfl rfl rfl rfl rfl rfl (((g3.ext ab).ext a0).ext a4) AdV ac rfl rfl rfl (by rw[Abr,etk];show(i+1)*25≤140737488355328;omega) rfl ?_;intro v7 w7 a8 ao ad;have bg:=a8.size;have hE:=hE.same a8;clear hS;apply LW.nil;refine QW.headed hE ?_;refine GW.tail rfl AdX (λhS=>?_);have ae:=(ab.trans a0).trans a4;have ap:Chg (Ac (Value.slice rp ((l.take i).map λt=>[t]).length rc)) w4 w7:=hS;have aq:=al.chg ap nH;obtain⟨vp,vc,rfl⟩:=ao.slice;refine Sw ?_;refine D9 λw8 a9 aq=>?_;have af:=((a7.ext a4).chg a8 λhm=>by have:=(g3.lt hm).2;omega).chg a9 AdY;have az:Chg (H::Ac (Value.slice rp ((l.take i).map λt=>[t]).length rc)) w4 w8:=(Chg.trans ap a9).mono λb hb _=>by
   rcases AaC.1 hb with hb | hb
   ·exact Abk _ hb
   ·simp only[B3] at hb;subst hb;exact Ab6 ..
  refine Sw ?_;refine QW.again (i+1,.slice vp (((l.take i).map λt=>[t]).length+1) vc) ⟨by show i+1≤_;omega,?_,aq,?_,by show(l.take (i+1)).length=i+1;rw[an,B6,etk];rfl⟩ Bx (by show _ - (i+1)<_ - i;omega)
  ·refine(Chg.trans a5 az).mono λb hb bh=>?_;simp only[AaC,AaH,AbL,or_false] at hb ⊢;rcases hb with hb | hb | hb
   ·exact hb
   ·exact hb
   ·have:=(g3.lt hb).1;omega
  ·have hu:∀j,j∈R::H::Ac (Value.slice vp (((l.take i).map λt=>[t]).length+1) vc)→j∈R::H::Ac (Value.slice rp ((l.take i).map λt=>[t]).length rc)∨w6.heap.size≤j:=λj hj=>by
    simp only[AaH] at hj ⊢;rcases hj with hj | hj | hj
    ·exact .inl (.inl hj)
    ·exact .inl (.inr (.inl hj))
    ·rcases ad j hj with h | h
     ·exact .inl (.inr (.inr h))
     ·exact .inr h
   show UF _ _ _ _ ((l.take (i+1)).map λt=>[t]);rw[an,AbT];refine As.snoc g1 g2 (ao.chg a9 λb hb hm=>?_) rfl (λk y ds hi hd=>((g4 k y ds hi hd).ext ae).step ?_ hu) λw' hw=>⟨_,rfl,?_⟩
   ·simp only[B3] at hm;subst hm;rcases ad _ hb with h | h
    ·exact nH h
    ·omega
   ·exact(Chg.trans a8 a9).mono λb hb _=>by
     simp only[AaC,AaH,AbL,or_false] at hb ⊢;rcases hb with hb | hb
     ·exact .inr (.inr hb)
     ·exact .inr (.inl hb)
   ·exact FA (l:=[t]) (af.chg hw (by
     simp only[AaH,not_or];refine⟨by omega,by omega,λhm=>?_⟩;rcases ad _ hm with h | h
     ·have:=(g3.lt h).2;omega
     ·omega)) Aei (by simpa using av)
 ·have c1:i=l.length:=by simp at c1;omega
  subst c1;refine Sw ?_;refine CF λD w5 bi a0 hD=>?_;replace hD:Blk w5 D (Au ⟨[65],1,(l.take l.length).map λt=>[t]⟩ (.slice rp ((l.take l.length).map λt=>[t]).length rc)) 46:=hD;have ax:=a0.size;have ay:=hD.lt;replace a6:=a6.ext a0;refine Sw ?_;refine AM λw6 ag a6=>?_;have ar:=As.ext' (R':=λ_ w cs s=>Fu (R::H::Ac (Value.slice rp ((l.take l.length).map λt=>[t]).length rc)) w λw'=>Aae w' cs s) a2 a0 λ_ _ _ _ h=>h.ext a0;have b0:=SafO.step (U':=[]) ar ag (λj hj=>by simp only[B3] at hj;subst hj;exact Ab6 ..) (λb hb hm=>by simp only[B3] at hm;subst hm;have:=(As.lt ar hb).1;omega) (λj hj=>by simp at hj);have ah:Cy w6 (.slice rp ((l.take l.length).map λt=>[t]).length rc) ((l.take l.length).map λt=>[t]):=Ab.map (As.list (ok:=G3) b0 AdY λ_ _ _=>trivial) (λ_ h=>h) λ_ _ _ _ h=>h.now;have b1:=hD.chg ag AdY;refine Sw ?_;refine QW.body_c rfl rfl a6 rfl rfl rfl ⟨_,rfl,?_,(a3.trans a0).step ag AdY⟩;have e:A4 l=[⟨[65],1,(l.take l.length).map λt=>[t]⟩]:=by rw[A4,Ack]
  rw[e];exact AR.one (s:=⟨[65],1,(l.take l.length).map λt=>[t]⟩) b1 Aei ah
theorem M2:DS (A4 [[49],[50]]) (A4 [[49],[55]]) (A4 [[53],[49],[50]])=[Dx [65] ⟨[65],1,[[[49]],[[50]]]⟩ ⟨[65],1,[[[49]],[[55]]]⟩ ⟨[65],1,[[[53]],[[49]],[[50]]]⟩]:=by kernel_rfl
theorem I9{n:Nat}{t:List UInt8}(hn:n≤1000)(h:Lib.itoa (n:Int)=t):Cs t=true:=by
 rw[←h];exact MP _ AdV AdV
theorem Abt:CN (A4 [[49],[50]]) (A4 [[49],[55]]) (A4 [[53],[49],[50]])=⟨A4 [[53],[49],[55]],[],0⟩:=by
 have c1:Cs [49]=true:=I9 (n:=1) AdV Aev;have c2:Cs [50]=true:=I9 (n:=2) AdV Aev;have c5:Cs [53]=true:=I9 (n:=5) AdV Aev;have c7:Cs [55]=true:=I9 (n:=7) AdV Aev;have m1:=IV (l:=[[49],[50]]) Aei (by simp[c1,c2]);have m2:=IV (l:=[[49],[55]]) Aei (by simp[c1,c7]);have m3:=IV (l:=[[53],[49],[50]]) Aei (by simp[c1,c2,c5]);have s1:∀l,E3 (A4 [[49],[50]]) l=A4 [[49],[50]]:=λl=>PD AdZ;have s2:∀l,E3 (A4 [[49],[55]]) l=A4 [[49],[55]]:=λl=>PD AdZ;have s3:∀l,E3 (A4 [[53],[49],[50]]) l=A4 [[53],[49],[50]]:=λl=>PD AdZ;rw[CN,if_pos ⟨m1,m2,m3⟩,M2,if_neg Aev,MQ,M2];rw[s1,s2,s3]
 change JJ.mk _ _ _=_
 kernel_rfl
theorem DZ{w:World}{v:Value}(h:WC w v []):∃p c,v=.slice p 0 c:=Ab.slice h
set_option maxRecDepth 8000 in
set_option maxHeartbeats 2000000 in
theorem EQ(w:World)(g:CT w):AN prog 14 [] w (λv w'=>v=.bool true∧Ah w w'):=by
 refine Bq func14 ntmps14 ?_;refine Sa ?_;refine CF λA w1 am a8 hA=>?_;replace hA:Blk w1 A (([[49],[50]]:List (List UInt8)).map Av) 9:=hA;refine Sa ?_;refine Ar rfl rfl (An [[49],[50]] _ w1 (FA hA AdZ AdZ) AdZ) ?_;rintro v w2 ⟨v1,rfl,h1,a9⟩;have a4:=a8.trans a9;refine Sa ?_;refine CF λB w3 an aa hB=>?_;replace hB:Blk w3 B (([[49],[55]]:List (List UInt8)).map Av) 9:=hB;refine Sa ?_;refine Ar rfl rfl (An [[49],[55]] _ w3 (FA hB AdZ AdZ) AdZ) ?_;rintro v w4 ⟨v2,rfl,h2,ab⟩;have a1:=aa.trans ab;have a5:=a4.trans a1;refine Sa ?_;refine CF λC w5 ao ac hC=>?_;replace hC:Blk w5 C (([[53],[49],[50]]:List (List UInt8)).map Av) 9:=hC;refine Sa ?_;refine Ar rfl rfl (An [[53],[49],[50]] _ w5 (FA hC AdZ AdZ) AdZ) ?_;rintro v w6 ⟨v3,rfl,h3,ad⟩;have a0:=ac.trans ad;have a2:=a5.trans a0;have t:=E9 (A4 [[49],[50]]) (A4 [[49],[55]]) (A4 [[53],[49],[50]]) v1 v2 v3 w6 (g.ext a2) (Aa.ext h1 (a1.trans a0)) (Aa.ext h2 a0) h3;rw[Abt] at t;refine Sa ?_;refine Ar rfl rfl t ?_;rintro v w7 ⟨ov,cv,rfl,hO,ae,af⟩;obtain⟨cp,cc,rfl⟩:=DZ ae;obtain⟨op,oc,rfl⟩:=Ab.slice hO;refine Sa ?_;refine Bt λM w8 ap a6 hM=>?_;have aq:=a6.size;refine Sa ?_;refine AM λw9 ag hM=>?_;replace hM:Blk w9 M [.slice op (A4 [[53],[49],[55]]).length oc] 24:=hM;have a3:Ah w7 w9:=a6.step ag AdY;have ah:=Aa.ext hO a3;have a7:=(a2.trans af).trans a3;clear hA hB hC h1 h2 h3 t hO ae a8 a9 aa ab ac ad af a6 ag a4 a1 a5 a0 a2 a3;refine Sw ?_;refine CW.drawG (Ah w9) 14 (λw' h=>h) AdX λwa ar=>?_;refine Ay ?_;refine Bd 1 λhS=>?_;refine Ar rfl rfl (I5 0 _) ?_;rintro v wb ⟨rfl,ai⟩;have hE:=hS.trans ai;clear hS;apply LW.nil;refine QW.headed hE ?_;refine Ay ?_;refine Bd 10 λhS=>?_;refine Sl ?_;refine CF λD wc au aj hD=>?_;replace hD:Blk wc D (([[53],[49],[55]]:List (List UInt8)).map Av) 9:=hD;have hE:=hS.trans aj;clear hS;apply LW.nil;refine QW.headed hE ?_;refine Ay ?_;refine Bd 11 λhS=>?_;refine Sl ?_;refine Ar rfl rfl (An [[53],[49],[55]] _ wc (FA hD AdZ AdZ) AdZ) ?_;rintro v wd ⟨v4,rfl,h4,ak⟩
 have hE:=hS.trans ak;clear hS;apply LW.nil;refine QW.headed hE ?_;refine Ay ?_;refine Bd 12 λhS=>?_;refine Sl ?_;refine Ar rfl rfl (JL _ _ _ _ wd (Aa.ext ah hS) h4) ?_;rintro v we ⟨rfl,al⟩;have hE:=hS.trans al;clear hS;apply LW.nil;refine QW.headed hE ?_;refine Ay ?_;refine GW.tail rfl AdX (λhS=>?_);refine Sw ?_;exact QW.body1 rfl rfl ⟨by simp,a7.trans hS⟩
def DW(w:World)(lo:Nat)(v:Value)(l:List (List UInt8)):Prop:=E.Own w lo 9 1 v l.length (l.map Av)
theorem DW.nil(w:World)(lo:Nat):DW w lo (.slice none 0 0) []:=E.Own.nil _ _ _ _
theorem DW.texts{w:World}{lo:Nat}{v:Value}{l:List (List UInt8)}(h:DW w lo v l)(hl:l.length≤1000:=by simp;omega)(ht:∀t∈l,t.length≤1000):Bz w v l:=Nf h AdV λt hh=>by have:=ht t hh;omega
structure Bk{n:Nat}(w:World)(lo:Nat)(v:Fin n→Value)(l:Fin n→List (List UInt8)):Prop where
 own:∀i,DW w lo (v i) (l i)
 dis:∀i j,i≠j→∀b∈Ac (v i),b∉Ac (v j)
def GB{n:Nat}{α:Type}(v:Fin n→α)(i:Fin n)(u:α):Fin n→α:=λj=>if j=i then u else v j
theorem Bk.nil{n:Nat}(w:World)(lo:Nat):Bk (n:=n) w lo (λ_=>.slice none 0 0) (λ_=>[]):=⟨λ_=>.nil _ _,λ_ _ _ b hb=>by simp[Ac] at hb⟩
theorem Bk.ext{n:Nat}{w w':World}{lo:Nat}{v:Fin n→Value}{l:Fin n→List (List UInt8)}(h:Bk w lo v l)(k:Ah w w'):Bk w' lo v l:=⟨λi=>E.Own.ext (h.own i) k,h.dis⟩
theorem Bk.put{n:Nat}{w w':World}{lo:Nat}{v:Fin n→Value}{l:Fin n→List (List UInt8)}(h:Bk w lo v l)(i:Fin n){u:Value}{m:List (List UInt8)}(hc:Chg (Ac (v i)) w w')(hO:DW w' lo u m)(hu:∀b,b∈Ac u→b∈Ac (v i)∨w.heap.size≤b):Bk w' lo (GB v i u) (GB l i m):=by
 have a0:∀j b,b∈Ac (v j)→b<w.heap.size:=λj b hb=>(E.Own.lt (h.own j) hb).2;refine⟨λj=>?_,λj k a1 b hb=>?_⟩
 ·unfold GB;by_cases e:j=i
  ·rw[if_pos e,if_pos e];exact hO
  ·rw[if_neg e,if_neg e];exact E.Own.chg (h.own j) hc λb hb=>h.dis j i e b hb
 ·unfold GB at hb ⊢;by_cases e:j=i
  ·rw[if_pos e] at hb;have e2:¬k=i:=λk2=>a1 (e.trans k2.symm);rw[if_neg e2];intro hk;rcases hu b hb with hb | hb
   ·exact h.dis k i e2 b hk hb
   ·have:=a0 k b hk;omega
  ·rw[if_neg e] at hb;by_cases e2:k=i
   ·rw[if_pos e2];intro hk;rcases hu b hk with hk | hk
    ·exact h.dis j i e b hb hk
    ·have:=a0 j b hb;omega
   ·rw[if_neg e2];exact h.dis j k a1 b hb
def Iy{α:Type}(a b c:α):Fin 3→α:=λ| 0=>a | 1=>b | 2=>c
theorem W7{α:Type}(a b c u:α):GB (Iy a b c) 0 u=Iy u b c:=by funext j;match j with | 0=>rfl | 1=>rfl | 2=>rfl
theorem ZD{α:Type}(a b c u:α):GB (Iy a b c) 1 u=Iy a u c:=by funext j;match j with | 0=>rfl | 1=>rfl | 2=>rfl
theorem ZE{α:Type}(a b c u:α):GB (Iy a b c) 2 u=Iy a b u:=by funext j;match j with | 0=>rfl | 1=>rfl | 2=>rfl
theorem GU{α:Type}(a:α):(λ_=>a)=Iy a a a:=by funext j;match j with | 0=>rfl | 1=>rfl | 2=>rfl
def Ge{α:Type}(a b c e:α):Fin 4→α:=λ| 0=>a | 1=>b | 2=>c | 3=>e
theorem Aac{α:Type}(a b c e u:α):GB (Ge a b c e) 0 u=Ge u b c e:=by funext j;match j with | 0=>rfl | 1=>rfl | 2=>rfl | 3=>rfl
theorem Uz{α:Type}(a b c e u:α):GB (Ge a b c e) 1 u=Ge a u c e:=by funext j;match j with | 0=>rfl | 1=>rfl | 2=>rfl | 3=>rfl
theorem U0{α:Type}(a b c e u:α):GB (Ge a b c e) 2 u=Ge a b u e:=by funext j;match j with | 0=>rfl | 1=>rfl | 2=>rfl | 3=>rfl
theorem OS{α:Type}(a b c e u:α):GB (Ge a b c e) 3 u=Ge a b c u:=by funext j;match j with | 0=>rfl | 1=>rfl | 2=>rfl | 3=>rfl
theorem OT{α:Type}(a:α):(λ_=>a)=Ge a a a a:=by funext j;match j with | 0=>rfl | 1=>rfl | 2=>rfl | 3=>rfl
section
variable {Q:Exit→Act→World→Prop} {D:List Deferred} {n:Nat} {Ev:Ci} {l rest:List Oper} {x y:Operand} {T:TypeId} {pos:String} {af:Array Edge} {d:Nat}
theorem LW.pushU{m:Nat}{w:World}{lo:Nat}{v:Fin m→Value}{ls:Fin m→List (List UInt8)}(i:Fin m){D1:Nat}{t:List UInt8}(hF:Bk w lo v ls)(hD:Blk w D1 [Av t] 9)(hlo:lo≤w.heap.size)(hl:(ls i).length≤1000)
  (h:∀u w',Chg (Ac (v i)) w w'→(∀b,b∈Ac u→b∈Ac (v i)∨w.heap.size≤b)→Bk w' lo (GB v i u) (GB ls i (ls i++[t]))→LW prog l Q rest D n ((d,u)::Ev) w')
  (hx:ev Ev x=some (v i):=by exact rfl) (hy:ev Ev y=some (.slice (some ⟨D1,0,none⟩) 1 1):=by exact rfl) (hn:Nat.blt d n=true:=by exact rfl) :
  LW prog l Q (⟨some d,.call {callee:=.builtin .append,args:=#[x,y],argTypes:=#[47,47]},T,pos,af,none⟩::rest) D n Ev w:=by
 refine LW.append (lo:=lo) (k:=(ls i).length) hx hy rfl rfl rfl rfl (hF.own i) hlo hD rfl rfl rfl AeY hn λu w' hc hO hu=>?_;refine h u w' hc hu (hF.put i hc ?_ hu);show E.Own _ _ _ _ _ (ls i++[t]).length ((ls i++[t]).map Av);rw[B6,AbT];exact hO
theorem LW.push{m:Nat}{w:World}{lo:Nat}{v:Fin m→Value}{ls:Fin m→List (List UInt8)}(i:Fin m){D1:Nat}{t:List UInt8}(hF:Bk w lo v ls)(hD:Blk w D1 [Av t] 9)(hlo:lo≤w.heap.size)(hl:(ls i).length≤1000)
  (h:∀u w',Chg (Ac (v i)) w w'→Bk w' lo (GB v i u) (GB ls i (ls i++[t]))→LW prog l Q rest D n ((d,u)::Ev) w')
  (hx:ev Ev x=some (v i):=by exact rfl) (hy:ev Ev y=some (.slice (some ⟨D1,0,none⟩) 1 1):=by exact rfl) (hn:Nat.blt d n=true:=by exact rfl) :
  LW prog l Q (⟨some d,.call {callee:=.builtin .append,args:=#[x,y],argTypes:=#[47,47]},T,pos,af,none⟩::rest) D n Ev w:=
 LW.pushU i hF hD hlo hl (λu w' hc _ hF=>h u w' hc hF) hx hy hn
theorem LW.pushSrc{m:Nat}{w:World}{lo:Nat}{v:Fin m→Value}{ls:Fin m→List (List UInt8)}(i:Fin m){p:Option Addr}{c k:Nat}{ts:List (List UInt8)}(hF:Bk w lo v ls)(hT:p=none∧k=0∨∃a,p=some a∧∀j u,(ts.map Av)[j]?=some u→w.cell? (a.add j)=some u)(hk:ts.length=k)(hlo:lo≤w.heap.size)(hl:(ls i).length+ts.length≤1000)
  (h:∀u w',Chg (Ac (v i)) w w'→(∀b,b∈Ac u→b∈Ac (v i)∨w.heap.size≤b)→Bk w' lo (GB v i u) (GB ls i (ls i++ts))→LW prog l Q rest D n ((d,u)::Ev) w')
  (hx:ev Ev x=some (v i):=by exact rfl) (hy:ev Ev y=some (.slice p k c):=by exact rfl) (hn:Nat.blt d n=true:=by exact rfl) :
  LW prog l Q (⟨some d,.call {callee:=.builtin .append,args:=#[x,y],argTypes:=#[47,47]},T,pos,af,none⟩::rest) D n Ev w:=by
 subst hk;refine LW.append_any (lo:=lo) (k:=(ls i).length) (news:=ts.map Av) hx hy rfl rfl rfl rfl (hF.own i) hlo (by rw[Abr];exact(AcB _).symm) hT (λu hu=>by obtain⟨t,-,rfl⟩:=AbJ.1 hu;rfl) (by show(_+_)*17≤_;omega) hn λu w' hc hO hu=>?_;refine h u w' hc hu (hF.put i hc ?_ hu);show E.Own _ _ _ _ _ (ls i++ts).length ((ls i++ts).map Av);rw[B6,AbT];exact hO
theorem KR{w:World}{p:Option Addr}{c:Nat}{ts:List (List UInt8)}(hT:Bz w (.slice p ts.length c) ts):p=none∧ts.length=0∨∃a,p=some a∧∀j u,(ts.map Av)[j]?=some u→w.cell? (a.add j)=some u:=by
 obtain⟨-,⟨e1,e2⟩ | ⟨a,c',e,-,hh⟩⟩:=hT
 ·left
  injection e1 with e1 _ _;exact⟨e1,by rw[e2];rfl⟩
 ·right
  injection e with e1 _ _;refine⟨a,e1,λj u hu=>?_⟩;rw[AbH] at hu
  cases ht:ts[j]? with
  | none=>rw[ht] at hu;cases hu
  | some t=>
   rw[ht] at hu;obtain rfl:=Ab9 hu;obtain⟨cs,-,⟨rfl,-⟩,hc⟩:=hh j t ht;have:=hc 0 _ rfl;rw[Og] at this
   simpa using this
theorem LW.pushAll{m:Nat}{w:World}{lo:Nat}{v:Fin m→Value}{ls:Fin m→List (List UInt8)}(i:Fin m){q:Value}{ts:List (List UInt8)}(hF:Bk w lo v ls)(hT:Bz w q ts)(hlo:lo≤w.heap.size)(hl:(ls i).length+ts.length≤1000)
  (h:∀u w',Chg (Ac (v i)) w w'→Bk w' lo (GB v i u) (GB ls i (ls i++ts))→LW prog l Q rest D n ((d,u)::Ev) w')
  (hx:ev Ev x=some (v i):=by exact rfl) (hy:ev Ev y=some q:=by exact rfl) (hn:Nat.blt d n=true:=by exact rfl) :
  LW prog l Q (⟨some d,.call {callee:=.builtin .append,args:=#[x,y],argTypes:=#[47,47]},T,pos,af,none⟩::rest) D n Ev w:=by
 obtain⟨p,c,rfl⟩:=hT.slice;exact LW.pushSrc i hF (KR hT) rfl hlo hl (λu w' hc _ hF=>h u w' hc hF) hx hy hn
end
def A2(k:Nat):List Nat:=(List.range k).map (10+·)
def A6(p:Nat):List Nat:=(List.range p).map (30+·)
def AA(q:Nat):List Nat:=(List.range q).map (50+·)
def K4(r i:Nat)(l:List Nat):List Nat:=if r=i then l else[]
def DL(k i:Nat)(l:List Nat)(n:Nat):List Nat:=(List.range n).flatMap λr=>K4 r i l++if r<k then[10+r] else[]
def CU(k i j:Nat)(l m:List Nat)(n:Nat):List Nat:=(List.range n).flatMap λr=>K4 r i l++(K4 r j m++if r<k then[10+r] else[])
def Pu(o x y want:List Nat):Bool:=o.isSublist x&&o.isSublist y&&decide (x≠y)&&decide (HY o x y (A8 ⟨YH o x,x.length⟩ ⟨YH o y,y.length⟩)=want.map λt=>(t,false))&&decide (o.length≤24)&&decide (x.length≤24)&&decide (y.length≤24)
def AQ(a b:List UInt8)(t:Nat):List UInt8:=if t=0 then[] else if t<30 then Lib.itoa ((90+t:Nat):Int) else if t<50 then a++Lib.itoa ((t - 30:Nat):Int) else b++Lib.itoa ((t - 50:Nat):Int)
def Gi:List UInt8:=[39,111,117,114,115]
def Gm:List UInt8:=[39,116,104,101,105,114,115]
def aW:List UInt8:=[39,97]
def bW:List UInt8:=[39,98]
def Eh:List Nat:=A2 12++A6 12++AA 12
theorem Rs:∀s∈0::Eh,∀t∈0::Eh,AQ Gi Gm s=AQ Gi Gm t→s=t:=by decide +kernel
theorem Pp:∀s∈0::Eh,∀t∈0::Eh,AQ aW bW s=AQ aW bW t→s=t:=by decide +kernel
theorem U9{a:List UInt8}(ha:Ai a 0=39)(hl:a.length≤200)(n:Nat)(hn:n<1000):Cs (a++Lib.itoa (n:Int))=true:=by
 have h:=Lib.itoa_length_le (n:Int) AdV AdV;rw[Cs,if_neg AdY,if_pos];refine .inr ?_
 cases a with
 | nil=>simp[Ai] at ha
 | cons c r=>exact ha
theorem FZ{a b:List UInt8}(ha:Ai a 0=39)(hb:Ai b 0=39)(la:a.length≤200)(lb:b.length≤200)(hi:∀s∈0::Eh,∀t∈0::Eh,AQ a b s=AQ a b t→s=t):JI Eh (AQ a b)∧∀s∈Eh,Ai (AQ a b s) 0≠61:=by
 have hm:∀s∈Eh,s≠0∧s<100:=AdZ
 have c39:∀{c:List UInt8} (n:Nat),Ai c 0=39→Ai (c++Lib.itoa (n:Int)) 0=39:=λ{c} n h=>by
  cases c with
  | nil=>simp[Ai] at h
  | cons x r=>exact h
 refine⟨⟨λs hs t ht=>hi s (Abk _ hs) t (Abk _ ht),λs hs e=>?_,λs hs=>?_⟩,λs hs=>?_⟩
 ·exact(hm s hs).1 (hi s (Abk _ hs) 0 (Ab6 ..) e)
 ·obtain⟨h0,h1⟩:=hm s hs;unfold AQ;rw[if_neg h0]
  split
  ·exact MP _ AdV AdV
  split
  ·exact U9 ha la _ AdV
  ·exact U9 hb lb _ AdV
 ·obtain⟨h0,h1⟩:=hm s hs;unfold AQ;rw[if_neg h0]
  split
  ·exact(λe=>by have:=(OH (n:=((90+s:Nat):Int)) AdV AdV).2.2;omega)
  split
  ·rw[c39 _ ha];decide
  ·rw[c39 _ hb];decide
theorem CG{k:Nat}(h:k≤12):A2 k ⊆ Eh:=λs hs=>by
 obtain⟨r,hr,rfl⟩:=AbJ.1 hs;have hr:=Acg.1 hr;exact AbV _ (AbV _ (AbJ.2 ⟨r,Acg.2 AdV,rfl⟩))
theorem G1{k:Nat}(h:k≤12):A6 k ⊆ Eh:=λs hs=>by
 obtain⟨r,hr,rfl⟩:=AbJ.1 hs;have hr:=Acg.1 hr;exact AbV _ (Acf _ (AbJ.2 ⟨r,Acg.2 AdV,rfl⟩))
theorem G2{k:Nat}(h:k≤12):AA k ⊆ Eh:=λs hs=>by
 obtain⟨r,hr,rfl⟩:=AbJ.1 hs;have hr:=Acg.1 hr;exact Acf _ (AbJ.2 ⟨r,Acg.2 AdV,rfl⟩)
theorem I6{a b:List Nat}(ha:a ⊆ Eh)(hb:b ⊆ Eh):a++b ⊆ Eh:=λs hs=>by
 rcases AaC.1 hs with h | h
 ·exact ha h
 ·exact hb h
theorem Me{k i n:Nat}{l:List Nat}(hk:k≤12)(hl:l ⊆ Eh):DL k i l n ⊆ Eh:=λs hs=>by
 obtain⟨r,hr,hs⟩:=AcV.1 hs;rcases AaC.1 hs with h | h
 ·unfold K4 at h
  split at h
  ·exact hl h
  ·cases h
 ·split at h
  ·exact CG hk (AbJ.2 ⟨r,Acg.2 Aep,(B3.1 h).symm⟩)
  ·cases h
theorem OR{a b:List UInt8}(ha:Ai a 0=39)(hb:Ai b 0=39)(la:a.length≤200)(lb:b.length≤200)(hi:∀s∈0::Eh,∀t∈0::Eh,AQ a b s=AQ a b t→s=t){o x y want:List Nat}(ho:o ⊆ Eh)(hx:x ⊆ Eh)(hy:y ⊆ Eh)(h:Pu o x y want=true) :
  CN (A4 (o.map (AQ a b))) (A4 (x.map (AQ a b))) (A4 (y.map (AQ a b)))=if 24<want.length then⟨[],[],4⟩ else⟨A4 (want.map (AQ a b)),[],0⟩:=by
 obtain⟨hm,a0⟩:=FZ ha hb la lb hi;simp only[Pu,AaG,decide_eq_true_eq,AcK] at h;obtain⟨⟨⟨⟨⟨⟨s1,s2⟩,a2⟩,hw⟩,lo⟩,lx⟩,ly⟩:=h;have a1:(A8 ⟨YH o x,x.length⟩ ⟨YH o y,y.length⟩).now=want.length:=by
  have:=congrArg List.length hw
  simpa[HY] using this
 rw[←a1];exact OK hm hi rfl ho hx hy ho hx hy lo lx ly a2 (EJ s1) (EJ s2) rfl (Nb ho a0 _) (Nb hx a0 _) (Nb hy a0 _) hw
theorem IU(k:Nat):A2 (k+1)=A2 k++[10+k]:=by simp[A2,Ace]
theorem Nd(k:Nat):A6 (k+1)=A6 k++[30+k]:=by simp[A6,Ace]
theorem NC(k:Nat):AA (k+1)=AA k++[50+k]:=by simp[AA,Ace]
theorem B4(k:Nat):(A2 k).length=k:=by simp[A2]
theorem EV(k:Nat):(A6 k).length=k:=by simp[A6]
theorem Fg(k:Nat):(AA k).length=k:=by simp[AA]
theorem Sb(a b:List UInt8){r:Nat}(hr:r<20):AQ a b (10+r)=Lib.itoa (100+(r:Int)):=by
 rw[AQ,if_neg AdV,if_pos AdV]
 congr 1
 omega
theorem KU(a b:List UInt8){r:Nat}(hr:r<20):AQ a b (30+r)=a++Lib.itoa (r:Int):=by
 rw[AQ,if_neg AdV,if_neg AdV,if_pos AdV]
 congr 2
 omega
theorem KV(a b:List UInt8)(r:Nat):AQ a b (50+r)=b++Lib.itoa (r:Int):=by
 rw[AQ,if_neg AdV,if_neg AdV,if_neg AdV]
 congr 2
 omega
theorem C3{a b:List UInt8}(hm:JI Eh (AQ a b)){l:List Nat}(hl:l ⊆ Eh):∀t∈l.map (AQ a b),t.length≤1000:=λt ht=>by
 obtain⟨s,hs,rfl⟩:=AbJ.1 ht;have:=GI (hm.may s (hl hs));omega
theorem CM(f:Nat→List UInt8)(l:List Nat)(x:Nat){t:List UInt8}(h:f x=t):(l++[x]).map f=l.map f++[t]:=by simp[h]
end Go.Proofs.YtcjjcnecopnpcaaGreatDoor
