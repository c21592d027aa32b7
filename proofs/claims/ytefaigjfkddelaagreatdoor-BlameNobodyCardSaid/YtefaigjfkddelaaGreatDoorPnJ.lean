/-
  Joined by program out of the texts BookP BookL BookW PasP PasQ PasW CodeP AliP AliQ BlaP FillP Byt Code1 Code2.
-/
import Derived.Test.YtefaigjfkddelaaGreatDoorPnG
import Derived.Test.YtefaigjfkddelaaGreatDoorPnE
import Derived.Test.YtefaigjfkddelaaGreatDoorPnI
import Derived.Test.YtefaigjfkddelaaGreatDoorPnH
import Derived.Test.YtefaigjfkddelaaGreatDoorPnB
import Derived.Lib.EndianBits
namespace Go.Proofs.YtefaigjfkddelaaGreatDoor
open Tryz
open Go Go.E
structure Af where
 name:List UInt8
 cols:Int
 rows:List (List (List UInt8))
deriving DecidableEq
abbrev Ag:=List Af
def IW(b:Ag)(nm:List UInt8):Option Nat:=b.findIdx? (λs=>decide (s.name=nm))
def Qq:Option Nat→Int
 | some i=>i
 | none=>-1
def Yk(s:Af)(row col:Int):Bool:=decide (0≤row)&&decide (row<s.rows.length)&&(decide (0≤col)&&decide (col<(s.rows.getD row.toNat []).length))
def It(s:Af)(row col:Int):List UInt8:=(s.rows.getD row.toNat []).getD col.toNat []
def OR(b:Ag)(nm:List UInt8)(row col:Int):Bool:=match IW b nm with
 | none=>false
 | some i=>match b[i]? with
  | none=>false
  | some s=>Yk s row col
theorem Nl{b:Ag}{nm:List UInt8}{i:Nat}(h:IW b nm=some i):∃s,b[i]?=some s∧s.name=nm:=by
 unfold IW at h;rw[Ac9] at h;obtain⟨a0,e,_⟩:=h;exact⟨b[i],Aak a0,by simpa using e⟩
theorem Rc{b:Ag}{x:List UInt8}(h:∀i s,i<b.length→b[i]?=some s→s.name≠x):IW b x=none:=by
 unfold IW;rw[Adu];intro s hs;obtain⟨i,hi,rfl⟩:=AdH hs;have:=h i _ hi (Aak hi)
 simpa using this
theorem TH{b:Ag}{x:List UInt8}{k:Nat}{s:Af}(hk:b[k]?=some s)(hs:s.name=x)(h:∀i u,i<k→b[i]?=some u→u.name≠x):IW b x=some k:=by
 unfold IW;rw[Ac9];obtain⟨a0,e⟩:=Aav.1 hk;refine⟨a0,by rw[e];simpa using hs,λj hj=>?_⟩;have:=h j _ hj (Aak Aez)
 simpa using this
noncomputable def AJ(s:Af):Bool:=D7 s.name&&decide (0≤s.cols)&&decide (s.cols≤12)&&decide (s.rows.length≤24)&&s.rows.all λr=>decide ((r.length:Int)=s.cols)&&r.all Bt
noncomputable def G6:Option (List UInt8)→Ag→Bool
 | _,[]=>true
 | p,s::r=>(match p with | none=>true | some q=>Op.bytesLess q s.name)&&AJ s&&G6 (some s.name) r
noncomputable def A5(b:Ag):Bool:=decide (b.length≤5)&&G6 none b
def JZ(s:Af)(row col:Nat)(t:List UInt8):Af:={s with rows:=s.rows.modify row λr=>r.set col t}
def H3(b:Ag)(i row col:Nat)(t:List UInt8):Ag:=b.modify i λs=>JZ s row col t
noncomputable def HV(b:Ag)(nm:List UInt8)(row col:Int)(t:List UInt8):Ag×Int:=
 if A5 b&&Bt t then(match IW b nm with
  | none=>([],2)
  | some i=>if OR b nm row col then(H3 b i row.toNat col.toNat t,0) else([],2)) else([],1)
def AaC:Fg (List UInt8):=λ_ _ cs s=>cs=[Am s]∧s.length≤1000000
abbrev A4(ok:Addr→Prop):World→Value→List (List UInt8)→Prop:=Ao 1 ok AaC
def Aaj(okT:Nat→Addr→Prop):Fg (List (List UInt8)):=λi w cs r=>∃v,cs=[v]∧A4 (okT i) w v r
abbrev AO(okR:Addr→Prop)(okT:Nat→Addr→Prop):World→Value→List (List (List UInt8))→Prop:=Ao 1 okR (Aaj okT)
def Ap(s:Af)(rv:Value):List Value:=[Am s.name,.int .i64 s.cols,rv]
def YU(okR:Nat→Addr→Prop)(okT:Nat→Nat→Addr→Prop):Fg Af:=λi w cs s=>∃rv,cs=Ap s rv∧s.name.length≤1000000∧AO (okR i) (okT i) w rv s.rows
abbrev Ak(okS:Addr→Prop)(okR:Nat→Addr→Prop)(okT:Nat→Nat→Addr→Prop):World→Value→Ag→Prop:=Ao 3 okS (YU okR okT)
abbrev Km:Addr→Prop:=λ_=>True
abbrev CD:=A4 Km
abbrev EK:=AO Km (λ_=>Km)
abbrev B5:=Ak Km (λ_=>Km) (λ_ _=>Km)
theorem A4.chg{S:List Nat}{ok:Addr→Prop}{w w':World}{v:Value}{l:List (List UInt8)}(h:A4 ok w v l)(x:Chg S w w')(hs:l≠[]→∀a,ok a→a.block∉S):A4 ok w' v l:=Ao.chg h x hs λ_ _ _ _ h=>h
theorem AO.chg{S:List Nat}{okR:Addr→Prop}{okT:Nat→Addr→Prop}{w w':World}{v:Value}{l:List (List (List UInt8))}(h:AO okR okT w v l)(x:Chg S w w')(hs:∀a,okR a→a.block∉S)(ht:∀i x a,l[i]?=some x→x≠[]→okT i a→a.block∉S):AO okR okT w' v l:=
 Ao.chg h x (λ_=>hs) λi y _ hi ⟨v,h1,h2⟩=>⟨v,h1,h2.chg x (λhn a ha=>ht i y a hi hn ha)⟩
theorem Ak.chg{S:List Nat}{okS:Addr→Prop}{okR:Nat→Addr→Prop}{okT:Nat→Nat→Addr→Prop}{w w':World}{v:Value}{l:Ag}(h:Ak okS okR okT w v l)(x:Chg S w w')(hs:∀a,okS a→a.block∉S)(hr:∀i a,i<l.length→okR i a→a.block∉S)(ht:∀i s r y a,l[i]?=some s→s.rows[r]?=some y→y≠[]→okT i r a→a.block∉S):Ak okS okR okT w' v l:=
 Ao.chg h x (λ_=>hs) λi s _ hi ⟨v,h1,h2,h3⟩=>⟨v,h1,h2,h3.chg x (λa ha=>hr i a (Aav.1 hi).1 ha) (λr y a hr hn ha=>ht i s r y a hi hr hn ha)⟩
theorem A4.ext{ok:Addr→Prop}{w w':World}{v:Value}{l:List (List UInt8)}(h:A4 ok w v l)(x:Ae w w'):A4 ok w' v l:=A4.chg h x Ae7
theorem AO.ext{okR:Addr→Prop}{okT:Nat→Addr→Prop}{w w':World}{v:Value}{l:List (List (List UInt8))}(h:AO okR okT w v l)(x:Ae w w'):AO okR okT w' v l:=AO.chg h x Ae7 Ae7
theorem Ak.ext{okS:Addr→Prop}{okR:Nat→Addr→Prop}{okT:Nat→Nat→Addr→Prop}{w w':World}{v:Value}{l:Ag}(h:Ak okS okR okT w v l)(x:Ae w w'):Ak okS okR okT w' v l:=Ak.chg h x Ae7 Ae7 Ae7
theorem AO.of{okR:Addr→Prop}{okT:Nat→Addr→Prop}{w:World}{v:Value}{l:List (List (List UInt8))}(h:AO okR okT w v l):EK w v l:=
 Ao.map h (λ_ _=>trivial) λ_ _ _ _ ⟨v,h1,h2⟩=>⟨v,h1,Ao.map h2 (λ_ _=>trivial) λ_ _ _ _ h=>h⟩
theorem Ak.of{okS:Addr→Prop}{okR:Nat→Addr→Prop}{okT:Nat→Nat→Addr→Prop}{w:World}{v:Value}{l:Ag}(h:Ak okS okR okT w v l):B5 w v l:=
 Ao.map h (λ_ _=>trivial) λ_ _ _ _ ⟨v,h1,h2,h3⟩=>⟨v,h1,h2,AO.of h3⟩
theorem A4.at{ok:Addr→Prop}{w:World}{p:Option Addr}{c:Nat}{l:List (List UInt8)}(h:A4 ok w (.slice p l.length c) l){i:Nat}{s:List UInt8}(hi:l[i]?=some s):∃a,p=some a∧ok a∧s.length≤1000000∧w.cell? (a.add (((i:Nat):Int).toNat*1))=some (Am s):=by
 obtain⟨a,u,h1,h2,⟨h3,h4⟩,h5⟩:=h.at1 hi;simp only[Adv,and_true] at h3;subst h3;exact⟨a,h1,h2,h4,h5⟩
theorem AO.at{okR:Addr→Prop}{okT:Nat→Addr→Prop}{w:World}{p:Option Addr}{c:Nat}{l:List (List (List UInt8))}(h:AO okR okT w (.slice p l.length c) l){i:Nat}{r:List (List UInt8)}(hi:l[i]?=some r):∃a q k,p=some a∧okR a∧A4 (okT i) w (.slice q r.length k) r∧w.cell? (a.add (((i:Nat):Int).toNat*1))=some (.slice q r.length k):=by
 obtain⟨a,u,h1,h2,⟨v,h3,h4⟩,h5⟩:=h.at1 hi;simp only[Adv,and_true] at h3;subst h3;obtain⟨q,k,rfl⟩:=h4.slice;exact⟨a,q,k,h1,h2,h4,h5⟩
theorem Ak.at{okS:Addr→Prop}{okR:Nat→Addr→Prop}{okT:Nat→Nat→Addr→Prop}{w:World}{p:Option Addr}{c:Nat}{l:Ag}(h:Ak okS okR okT w (.slice p l.length c) l){i:Nat}{s:Af}(hi:l[i]?=some s):∃a q k,p=some a∧okS a∧s.name.length≤1000000∧AO (okR i) (okT i) w (.slice q s.rows.length k) s.rows∧∀j u,(Ap s (.slice q s.rows.length k))[j]?=some u→w.cell? ((a.add (((i:Nat):Int).toNat*3)).add j)=some u:=by
 obtain⟨a,cs,h1,h2,h3,⟨rv,rfl,h4,h5⟩,h6⟩:=Ao.at h hi;obtain⟨q,k,rfl⟩:=h5.slice;exact⟨a,q,k,h1,h2,h4,h5,h6⟩
theorem Mm:∀a:List UInt8,Op.bytesLess a a=false
 | []=>rfl
 | x::l=>by simp[Op.bytesLess,Mm l]
theorem NJ:∀{a b c:List UInt8},Op.bytesLess a b=true→Op.bytesLess b c=true→Op.bytesLess a c=true
 | [],b,[],h,k=>by cases b<;>simp[Op.bytesLess] at h k
 | [],_,_::_,_,_=>by simp[Op.bytesLess]
 | _::_,[],_,h,_=>by simp[Op.bytesLess] at h
 | _::_,_::_,[],_,k=>by simp[Op.bytesLess] at k
 | x::a,y::b,z::c,h,k=>by
  simp only[Op.bytesLess,AcU,Abf,decide_eq_true_eq,beq_iff_eq] at h k ⊢;rcases h with h | ⟨rfl,h⟩
  ·rcases k with k | ⟨rfl,k⟩
   ·exact .inl (UInt8.lt_trans h k)
   ·exact .inl h
  ·rcases k with k | ⟨rfl,k⟩
   ·exact .inl k
   ·exact .inr ⟨rfl,NJ h k⟩
theorem ZL{a b:List UInt8}(h:Op.bytesLess a b=true):a≠b:=λe=>by
 subst e;rw[Mm] at h;cases h
theorem JJ:∀{b:Ag} {p:Option (List UInt8)},G6 p b=true→(∀s∈b,AJ s=true∧∀q,p=some q→Op.bytesLess q s.name=true)∧b.Pairwise (λs u=>Op.bytesLess s.name u.name=true)
 | [],_,_=>⟨by simp,.nil⟩
 | s::r,p,h=>by
  simp only[G6,Abf] at h;obtain⟨⟨h1,h2⟩,h3⟩:=h;obtain⟨h4,h5⟩:=JJ h3;refine⟨λu hu=>?_,.cons (λu hu=>(h4 u hu).2 _ rfl) h5⟩;rcases Acf.1 hu with rfl | hu
  ·refine⟨h2,λq hq=>?_⟩;subst hq;exact h1
  ·refine⟨(h4 u hu).1,λq hq=>?_⟩;subst hq;exact NJ h1 ((h4 u hu).2 _ rfl)
theorem Sd:∀{b:Ag} {p:Option (List UInt8)},(∀s∈b,AJ s=true∧∀q,p=some q→Op.bytesLess q s.name=true)→b.Pairwise (λs u=>Op.bytesLess s.name u.name=true)→G6 p b=true
 | [],_,_,_=>rfl
 | s::r,p,h,k=>by
  obtain⟨k1,k2⟩:=List.pairwise_cons.1 k;simp only[G6,Abf];refine⟨⟨?_,(h s (Acv ..)).1⟩,Sd (λu hu=>⟨(h u (Aci _ hu)).1,λq hq=>?_⟩) k2⟩
  ·cases p with
   | none=>rfl
   | some q=>exact(h s (Acv ..)).2 q rfl
  ·simp only[Aa3] at hq;rw[←hq];exact k1 u hu
theorem AP{b:Ag}:A5 b=true↔b.length≤5∧(∀s∈b,AJ s=true)∧b.Pairwise (λs u=>Op.bytesLess s.name u.name=true):=by
 unfold A5;rw[Abf,decide_eq_true_eq];constructor
 ·rintro⟨h1,h2⟩;exact⟨h1,λs hs=>((JJ h2).1 s hs).1,(JJ h2).2⟩
 ·rintro⟨h1,h2,h3⟩;exact⟨h1,Sd (λs hs=>⟨h2 s hs,λq hq=>by cases hq⟩) h3⟩
theorem TI{b:Ag}(h:b.Pairwise (λs u=>Op.bytesLess s.name u.name=true)){i:Nat}{s:Af}(hi:b[i]?=some s):IW b s.name=some i:=by
 refine TH hi rfl λj u hj hu=>?_;obtain⟨hl,e⟩:=Aav.1 hi;obtain⟨a0,e'⟩:=Aav.1 hu;have:=List.pairwise_iff_getElem.1 h j i a0 hl hj;rw[e,e'] at this;exact ZL this
theorem Tb(b:Ag)(i row col:Nat)(t:List UInt8)(j:Nat):(H3 b i row col t)[j]?=if i=j then(b[j]?).map (λs=>JZ s row col t) else b[j]?:=by
 unfold H3;rw[AcA]
 split<;>simp
theorem YS{s:Af}{row col:Nat}{t:List UInt8}(h:AJ s=true)(ht:Bt t=true):AJ (JZ s row col t)=true:=by
 simp only[AJ,Abf,decide_eq_true_eq,Ac2] at h ⊢;obtain⟨h1,h2⟩:=h;refine⟨by simpa[JZ] using h1,λr hr=>?_⟩;obtain⟨k,hk⟩:=Acy hr
 cases h3:s.rows[k]? with
 | none=>simp[JZ,AcA,h3] at hk
 | some x=>
  have h4:=h2 x (Aa9 h3);have hk:(if row=k then x.set col t else x)=r:=by simpa[JZ,AcA,h3] using hk
  split at hk
  ·subst hk;refine⟨by simpa[JZ] using h4.1,λc hc=>?_⟩;rcases AcW hc with h5 | h5
   ·exact h4.2 c h5
   ·rw[h5];exact ht
  ·subst hk;exact⟨by simpa[JZ] using h4.1,h4.2⟩
def Ab6:Fg (List UInt8):=λ_ _ cs s=>cs=[Am s]∧s.length≤9223372036854775807
abbrev Ga:World→Value→List (List UInt8)→Prop:=Ao 1 Km Ab6
def AbO:Fg (List (List UInt8)):=λ_ w cs r=>∃v,cs=[v]∧Ga w v r
abbrev GY:World→Value→List (List (List UInt8))→Prop:=Ao 1 Km AbO
def Aal:Fg Af:=λ_ w cs s=>∃rv,cs=Ap s rv∧s.name.length≤1000000∧GY w rv s.rows
abbrev DY:World→Value→Ag→Prop:=Ao 3 Km Aal
theorem Ga.ext{w w':World}{v:Value}{l:List (List UInt8)}(h:Ga w v l)(x:Ae w w'):Ga w' v l:=Ao.ext' h x λ_ _ _ _ h=>h
theorem GY.ext{w w':World}{v:Value}{l:List (List (List UInt8))}(h:GY w v l)(x:Ae w w'):GY w' v l:=Ao.ext' h x λ_ _ _ _ ⟨v,e,h⟩=>⟨v,e,Ga.ext h x⟩
theorem DY.ext{w w':World}{v:Value}{l:Ag}(h:DY w v l)(x:Ae w w'):DY w' v l:=Ao.ext' h x λ_ _ _ _ ⟨rv,e,hn,h⟩=>⟨rv,e,hn,GY.ext h x⟩
theorem Ga.at{w:World}{p:Option Addr}{c:Nat}{l:List (List UInt8)}(h:Ga w (.slice p l.length c) l){i:Nat}{s:List UInt8}(hi:l[i]?=some s):∃a,p=some a∧Km a∧s.length≤9223372036854775807∧w.cell? (a.add (((i:Nat):Int).toNat*1))=some (Am s):=by
 obtain⟨a,u,h1,h2,⟨e,h3⟩,h4⟩:=Ao.at1 h hi;obtain rfl:=(Ae5 e).1;exact⟨a,h1,h2,h3,h4⟩
theorem GY.at{w:World}{p:Option Addr}{c:Nat}{l:List (List (List UInt8))}(h:GY w (.slice p l.length c) l){i:Nat}{r:List (List UInt8)}(hi:l[i]?=some r):∃a q k,p=some a∧Km a∧Ga w (.slice q r.length k) r∧w.cell? (a.add (((i:Nat):Int).toNat*1))=some (.slice q r.length k):=by
 obtain⟨a,u,h1,h2,⟨u',e,h3⟩,h4⟩:=Ao.at1 h hi;obtain rfl:=(Ae5 e).1;obtain⟨q,k,rfl⟩:=Ao.slice h3;exact⟨a,q,k,h1,h2,h3,h4⟩
theorem DY.at{w:World}{p:Option Addr}{c:Nat}{l:Ag}(h:DY w (.slice p l.length c) l){i:Nat}{s:Af}(hi:l[i]?=some s):∃a q k,p=some a∧Km a∧s.name.length≤1000000∧GY w (.slice q s.rows.length k) s.rows∧∀j u,(Ap s (.slice q s.rows.length k))[j]?=some u→w.cell? ((a.add (((i:Nat):Int).toNat*3)).add j)=some u:=by
 obtain⟨a,cs,h1,h2,-,⟨rv,rfl,h3,h4⟩,h5⟩:=Ao.at h hi;obtain⟨q,k,rfl⟩:=Ao.slice h4;exact⟨a,q,k,h1,h2,h3,h4,h5⟩
theorem A4.loose{ok:Addr→Prop}{w:World}{v:Value}{l:List (List UInt8)}(h:A4 ok w v l):Ga w v l:=Ao.map h (λ_ _=>trivial) λ_ _ _ _ ⟨e,h⟩=>⟨e,by omega⟩
theorem AO.loose{okR:Addr→Prop}{okT:Nat→Addr→Prop}{w:World}{v:Value}{l:List (List (List UInt8))}(h:AO okR okT w v l):GY w v l:=Ao.map h (λ_ _=>trivial) λ_ _ _ _ ⟨v,e,h⟩=>⟨v,e,A4.loose h⟩
theorem Ak.loose{okS:Addr→Prop}{okR:Nat→Addr→Prop}{okT:Nat→Nat→Addr→Prop}{w:World}{v:Value}{l:Ag}(h:Ak okS okR okT w v l):DY w v l:=Ao.map h (λ_ _=>trivial) λ_ _ _ _ ⟨rv,e,hn,h⟩=>⟨rv,e,hn,AO.loose h⟩
theorem NT{s:List UInt8}(h:Bt s=true):s.length≤300:=by
 unfold Bt at h
 split at h
 ·cases h
 ·omega
theorem Mo{s:Af}(h:AJ s=true):∀r∈s.rows,(r.length:Int)=s.cols∧∀t∈r,Bt t=true:=by
 simp only[AJ,Abf,Ac2,decide_eq_true_eq] at h;exact λr hr=>⟨(h.2 r hr).1,λt ht=>(h.2 r hr).2 t ht⟩
structure A9 where
 id:List UInt8
 parents:List (List UInt8)
 book:Ag
 note:List UInt8
abbrev A7:=List A9
def DM:A7→List UInt8→Option Nat
 | [],_=>none
 | c::l,id=>if c.id=id then some 0 else(DM l id).map (·+1)
theorem Ez:∀{l:A7} {id:List UInt8} {k:Nat},DM l id=some k→∃c,l[k]?=some c∧c.id=id∧∀j d,j<k→l[j]?=some d→d.id≠id
 | [],_,_,h=>by cases h
 | c::l,id,k,h=>by
  rw[DM] at h
  split at h
  ·rename_i e;obtain rfl:=Aa5 h;exact⟨c,rfl,e,λj d hj=>absurd hj (Nat.not_lt_zero _)⟩
  ·rename_i e
   cases hg:DM l id with
   | none=>rw[hg] at h;cases h
   | some n=>
    rw[hg] at h;obtain rfl:=Aa5 h;obtain⟨d,h1,h2,h3⟩:=Ez hg;refine⟨d,by simpa using h1,h2,λj u hj hu=>?_⟩
    cases j with
    | zero=>simp at hu;rw[←hu];exact e
    | succ j=>
     have hj':j+1<n+1:=hj;exact h3 j u Aez (by simpa using hu)
theorem HB{l:A7}{id:List UInt8}{k:Nat}(h:DM l id=some k):k<l.length:=by
 obtain⟨c,h1,-⟩:=Ez h;exact(Aav.1 h1).1
theorem Kn:∀{l:A7} {id:List UInt8},DM l id=none→∀c∈l,c.id≠id
 | [],_,_=>by simp
 | c::l,id,h=>by
  rw[DM] at h
  split at h
  ·cases h
  ·rename_i e;have h2:DM l id=none:=by
    cases hg:DM l id with
    | none=>rfl
    | some n=>rw[hg] at h;cases h
   intro d hd;rcases Acf.1 hd with rfl | hd
   ·exact e
   ·exact Kn h2 d hd
theorem JB:∀{l:A7} {id:List UInt8} {k:Nat} {c:A9},l[k]?=some c→c.id=id→(∀j d,j<k→l[j]?=some d→d.id≠id)→DM l id=some k
 | [],_,_,_,h,_,_=>by simp at h
 | c::l,id,0,d,h,e,_=>by
  simp at h;subst h
  rw[DM,if_pos e]
 | c::l,id,k+1,d,h,e,hn=>by
  rw[DM,if_neg (hn 0 c Aez rfl),JB (k:=k) Afa e λj u hj hu=>hn (j+1) u Aez (by simpa using hu)];rfl
theorem Rh{l:A7}{id:List UInt8}{n k:Nat}(h:DM (l.take n) id=some k):DM l id=some k∧k<n:=by
 obtain⟨c,h1,h2,h3⟩:=Ez h;have hk:k<(l.take n).length:=(Aav.1 h1).1;have a0:k<n:=by simp at hk;omega
 rw[AcP a0] at h1;exact⟨JB h1 h2 λj d hj hd=>h3 j d hj (by rw[AcP Aez];exact hd),a0⟩
def Ib(l:A7)(i:Nat)(c:A9):Bool:=
 (DM (l.take i) c.id).isNone&&decide (c.parents.length≤2)&&!(decide (c.parents.length=2)&&decide (c.parents[0]?=c.parents[1]?))&&c.parents.all λp=>(DM (l.take i) p).isSome
def EJ(l:A7):Bool:=(List.range l.length).all λi=>match l[i]? with
 | none=>true
 | some c=>Ib l i c
theorem MN{l:A7}(h:EJ l=true){i:Nat}{c:A9}(hi:l[i]?=some c):Ib l i c=true:=by
 have h1:=Ac2.1 h i (Adj.2 (Aav.1 hi).1);rw[hi] at h1;exact h1
theorem K3{l:A7}(h:EJ l=true){i:Nat}{c:A9}(hi:l[i]?=some c):DM l c.id=some i:=by
 refine JB hi rfl λj d hj hd e=>?_;have h1:=MN h hi;simp only[Ib,Abf,Option.isNone_iff_eq_none] at h1;exact Kn h1.1.1.1 d (Aa9 (i:=j) (by rw[AcP hj];exact hd)) e
theorem Em{l:A7}(h:EJ l=true){i:Nat}{c:A9}(hi:l[i]?=some c){p:List UInt8}(hp:p∈c.parents):∃k,DM l p=some k∧k<i:=by
 have h1:=MN h hi;simp only[Ib,Abf,Ac2] at h1;obtain⟨k,hk⟩:=Option.isSome_iff_exists.1 (h1.2 p hp);exact⟨k,Rh hk⟩
def DI(l:A7):Nat→Option Nat→List Nat
 | 0,_=>[]
 | _+1,none=>[]
 | n+1,some k=>k::match l[k]? with
  | none=>[]
  | some c=>match c.parents with
   | []=>[]
   | p::_=>DI l n (DM l p)
def Cq(l:A7)(id:List UInt8):List Nat:=DI l l.length (DM l id)
theorem Uu{l:A7}(h:EJ l=true):∀(k n m:Nat),k<n→k<m→k<l.length→DI l n (some k)=DI l m (some k):=by
 intro k
 induction k using Nat.strongRecOn with
 | _ k ih=>
  intro n m hn hm hk;obtain⟨n,rfl⟩:∃q,n=q+1:=⟨n - 1,by omega⟩;obtain⟨m,rfl⟩:∃q,m=q+1:=⟨m - 1,by omega⟩;obtain⟨c,hc⟩:∃c,l[k]?=some c:=⟨_,Aak hk⟩;rw[DI,DI,hc]
  congr 1
  simp only
  cases hp:c.parents with
  | nil=>rfl
  | cons p r=>
   simp only;obtain⟨j,hj,a0⟩:=Em h hc (p:=p) AfK;rw[hj];exact ih j a0 n m Aez Aez Aez
theorem RY{l:A7}:∀(n:Nat) (o:Option Nat),(∀k,o=some k→k<l.length)→∀k∈DI l n o,k<l.length
 | 0,_,_,k,h=>by simp[DI] at h
 | n+1,none,_,k,h=>by simp[DI] at h
 | n+1,some q,hq,k,h=>by
  rw[DI] at h;rcases Acf.1 h with rfl | h
  ·exact hq k rfl
  ·cases hc:l[q]? with
   | none=>rw[hc] at h;simp at h
   | some c=>
    rw[hc] at h;simp only at h
    cases hp:c.parents with
    | nil=>rw[hp] at h;simp at h
    | cons p r=>
     rw[hp] at h;simp only at h;exact RY n _ (λk hk=>HB hk) k h
def Ab5:Jy (List UInt8):=λ_ cs s=>cs=[Am s]∧s.length≤9223372036854775807
abbrev Eb:World→Value→List (List UInt8)→Prop:=C8 1 Ab5
def Bl(c:A9)(pv bv:Value):List Value:=[Am c.id,pv,bv,Am c.note]
def MI:Jy A9:=λw cs c=>∃pv bv,cs=Bl c pv bv∧Eb w pv c.parents∧c.id.length≤9223372036854775807∧∃bp bn bc,bv=.slice bp bn bc
abbrev Dw:World→Value→A7→Prop:=C8 4 MI
theorem Eb.ext{w w':World}{v:Value}{l:List (List UInt8)}(h:Eb w v l)(x:Ae w w'):Eb w' v l:=C8.ext h x λ_ _ h=>h
theorem MI.ext{w w':World}{cs:List Value}{c:A9}(h:MI w cs c)(x:Ae w w'):MI w' cs c:=let ⟨pv,bv,e,h1,h2⟩:=h;⟨pv,bv,e,h1.ext x,h2⟩
theorem Dw.ext{w w':World}{v:Value}{l:A7}(h:Dw w v l)(x:Ae w w'):Dw w' v l:=C8.ext h x λ_ _ h=>h.ext x
theorem Eb.at{w:World}{p:Option Addr}{c:Nat}{l:List (List UInt8)}(h:Eb w (.slice p l.length c) l){i:Nat}{s:List UInt8}(hi:l[i]?=some s):∃a,p=some a∧s.length≤9223372036854775807∧w.cell? (a.add (((i:Nat):Int).toNat*1))=some (Am s):=by
 obtain⟨a,cs,h1,h2,⟨rfl,h3⟩,h4⟩:=C8.at h hi;exact⟨a,h1,h3,by have:=h4 0 _ rfl;rwa [IV] at this⟩
theorem Dw.at{w:World}{p:Option Addr}{k:Nat}{l:A7}(h:Dw w (.slice p l.length k) l){i:Nat}{c:A9}(hi:l[i]?=some c):∃a q n bv,p=some a∧Eb w (.slice q c.parents.length n) c.parents∧∀j u,(Bl c (.slice q c.parents.length n) bv)[j]?=some u→w.cell? ((a.add (((i:Nat):Int).toNat*4)).add j)=some u:=by
 obtain⟨a,cs,h1,h2,⟨pv,bv,rfl,h3,h4⟩,h5⟩:=C8.at h hi;obtain⟨q,n,rfl⟩:=h3.slice;exact⟨a,q,n,bv,h1,h3,h5⟩
theorem Dw.at'{w:World}{p:Option Addr}{k:Nat}{l:A7}(h:Dw w (.slice p l.length k) l){i:Nat}{c:A9}(hi:l[i]?=some c):∃a q n bp bn bc,p=some a∧Eb w (.slice q c.parents.length n) c.parents∧∀j u,(Bl c (.slice q c.parents.length n) (.slice bp bn bc))[j]?=some u→w.cell? ((a.add (((i:Nat):Int).toNat*4)).add j)=some u:=by
 obtain⟨a,cs,h1,h2,⟨pv,bv,rfl,h3,h4,bp,bn,bc,rfl⟩,h5⟩:=C8.at h hi;obtain⟨q,n,rfl⟩:=h3.slice;exact⟨a,q,n,bp,bn,bc,h1,h3,h5⟩
theorem C8.weak{α:Type}{m:Nat}{R S:Jy α}{w:World}{v:Value}{l:List α}(h:C8 m R w v l)(hR:∀x cs,x∈l→R w cs x→S w cs x):C8 m S w v l:=by
 obtain⟨h0,h | ⟨a,c,e,h⟩⟩:=h
 ·exact⟨h0,.inl h⟩
 ·exact⟨h0,.inr ⟨a,c,e,λi y hi=>let ⟨cs,h1,h2,h3⟩:=h i y hi;⟨cs,h1,hR y cs (Aa9 hi) h2,h3⟩⟩⟩
def C1:Jy A9:=λw cs c=>∃pv bv,cs=Bl c pv bv∧Eb w pv c.parents∧c.id.length≤1000000∧B5 w bv c.book∧A5 c.book=true
abbrev Dk:World→Value→A7→Prop:=C8 4 C1
theorem Dk.ext{w w':World}{v:Value}{l:A7}(h:Dk w v l)(x:Ae w w'):Dk w' v l:=C8.ext h x λ_ _ ⟨pv,bv,e,h1,h2,h3,h4⟩=>⟨pv,bv,e,h1.ext x,h2,Ak.ext h3 x,h4⟩
theorem Dk.past{w:World}{v:Value}{l:A7}(h:Dk w v l):Dw w v l:=C8.weak h λc cs _ ⟨pv,bv,e,h1,h2,h3,_⟩=>by
 obtain⟨p,k,rfl⟩:=h3.slice;exact⟨pv,_,e,h1,by omega,p,_,k,rfl⟩
theorem Dk.at{w:World}{p:Option Addr}{k:Nat}{l:A7}(h:Dk w (.slice p l.length k) l){i:Nat}{c:A9}(hi:l[i]?=some c):∃a q n bp bc,p=some a∧Eb w (.slice q c.parents.length n) c.parents∧B5 w (.slice bp c.book.length bc) c.book∧c.id.length≤1000000∧A5 c.book=true∧∀j u,(Bl c (.slice q c.parents.length n) (.slice bp c.book.length bc))[j]?=some u→w.cell? ((a.add (((i:Nat):Int).toNat*4)).add j)=some u:=by
 obtain⟨a,cs,h1,h2,⟨pv,bv,rfl,h3,h4,h5,h6⟩,h7⟩:=C8.at h hi;obtain⟨q,n,rfl⟩:=h3.slice;obtain⟨bp,bc,rfl⟩:=h5.slice;exact⟨a,q,n,bp,bc,h1,h3,h5,h4,h6,h7⟩
theorem Dk.may{w:World}{v:Value}{l:A7}(h:Dk w v l):∀c∈l,A5 c.book=true∧c.id.length≤1000000:=λc hc=>by
 obtain⟨i,hi⟩:=Acy hc;obtain⟨p,k,rfl⟩:=C8.slice h;obtain⟨a,q,n,bp,bc,-,-,-,h1,h2,-⟩:=Dk.at h hi;exact⟨h2,h1⟩
def GU(n:Nat):List UInt8:=if h:n<128 then[UInt8.ofNat n] else UInt8.ofNat (n % 128+128)::GU (n / 128)
 termination_by n
 decreasing_by omega
def JS(s:List UInt8):List UInt8:=GU s.length++s
def Ju(l:List (List UInt8)):List UInt8:=GU l.length++l.flatMap JS
theorem Ow{n:Nat}(h:n<128):GU n=[UInt8.ofNat n]:=by rw[GU,dif_pos h]
theorem SB{n:Nat}(h:128≤n):GU n=UInt8.ofNat (n % 128+128)::GU (n / 128):=by rw[GU,dif_neg Aez]
theorem Tx{n:Nat}(h:n<256):(UInt8.ofNat n).toNat=n:=by simp;omega
section
variable {α:Type} [DecidableEq α]
def Dl:List α→List α→Nat
 | [],_=>0
 | _::_,[]=>0
 | x::a,y::b=>if x=y then Dl a b+1 else max (Dl a (y::b)) (Dl (x::a) b)
 termination_by a b=>a.length+b.length
def Be:List α→List α→Nat→Nat→List (Nat×Nat)
 | [],_,_,_=>[]
 | _::_,[],_,_=>[]
 | x::a,y::b,i,k=>if x=y then(i,k)::Be a b (i+1) (k+1) else if Dl (x::a) b≤Dl a (y::b) then Be a (y::b) (i+1) k else Be (x::a) b i (k+1)
 termination_by a b _ _=>a.length+b.length
theorem Mu:∀(a:List α) (i k:Nat),Be a a i k=(List.range a.length).map λj=>(i+j,k+j)
 | [],_,_=>by simp[Be]
 | x::a,i,k=>by
  rw[Be,if_pos rfl,Mu a,AaT,List.range_succ_eq_map];simp only[AcE,Aeb,Adb,Adv,true_and];apply AcQ;intro j _;simp only[Function.comp,Ach];omega
theorem Ji:∀(a b:List α) (i k:Nat),∀p∈Be a b i k,i≤p.1∧p.1<i+a.length∧k≤p.2∧p.2<k+b.length
 | [],_,_,_,p,h=>by simp[Be] at h
 | _::_,[],_,_,p,h=>by simp[Be] at h
 | x::a,y::b,i,k,p,h=>by
  rw[Be] at h;simp only[AaT]
  split at h
  ·rcases Acf.1 h with rfl | h
   ·simp
   ·have:=Ji a b (i+1) (k+1) p h;omega
  split at h
  ·have:=Ji a (y::b) (i+1) k p h;simp only[AaT] at this;omega
  ·have:=Ji (x::a) b i (k+1) p h;simp only[AaT] at this;omega
 termination_by a b _ _=>a.length+b.length
end
def Cj(n:Nat)(ps:List (Nat×Nat)):List Int:=ps.foldl (λl p=>l.set p.1 (p.2:Int)) (List.replicate n (-1))
def Dm(new:Int):List Int→Int
 | []=>new
 | k::r=>if 0≤k then k else Dm new r
def EL(new:Int):Int→List Int→List Int
 | _,[]=>[]
 | free,k::r=>if 0≤k then k::EL new (k+1) r else if free<Dm new r then free::EL new (free+1) r else -1::EL new free r
theorem Fo(n:Nat)(ps:List (Nat×Nat)):(Cj n ps).length=n:=by
 unfold Cj;have:∀(ps:List (Nat×Nat)) (l:List Int),(ps.foldl (λl p=>l.set p.1 (p.2:Int)) l).length=l.length:=λps=>by
  induction ps with
  | nil=>simp
  | cons p r ih=>intro l;rw[Ad7,ih,Ado]
 rw[this];simp
theorem Ja(new:Int):∀(free:Int) (l:List Int),(EL new free l).length=l.length
 | _,[]=>rfl
 | free,k::r=>by
  rw[EL]
  split
  ·simp[Ja new (k+1) r]
  split
  ·simp[Ja new (free+1) r]
  ·simp[Ja new free r]
theorem N2(new:Int):∀(free:Int) (l:List Int),(∀k∈l,0≤k)→EL new free l=l
 | _,[],_=>rfl
 | free,k::r,h=>by
  rw[EL,if_pos (h k (Acv ..)),N2 new (k+1) r λx hx=>h x (Aci _ hx)]
def GD(n:Nat):List Int:=(List.range n).map λ(i:Nat)=>(i:Int)
def DF{α:Type}[DecidableEq α](a b:List α):List Int:=EL b.length 0 (Cj a.length (Be a b 0 0))
theorem IA{α:Type}[DecidableEq α](a b:List α):(DF a b).length=a.length:=by rw[DF,Ja,Fo]
theorem K2:∀(n m:Nat),m≤n→Cj n ((List.range m).map λj=>(0+j,0+j))=GD m++List.replicate (n - m) (-1)
 | n,0,_=>by simp[Cj,GD]
 | n,m+1,h=>by
  have ih:=K2 n m Aez;unfold Cj at ih ⊢;rw[AcL,Ac1,AcN,ih];simp only[AcE,AcZ,Ad7,List.foldl_nil,AbW];rw[AcY _ _ (by simp[GD]),show m - (GD m).length=0 by simp[GD],show n - m=(n - (m+1))+1 by omega,Ade,Ad4];simp[GD,AcL]
theorem KC{α:Type}[DecidableEq α](a:List α):DF a a=GD a.length:=by
 rw[DF,Mu,K2 _ _ (Ab9 _),Adc,List.replicate_zero,Acq];exact N2 _ _ _ λk hk=>by
  simp only[GD,Acu] at hk;obtain⟨i,_,rfl⟩:=hk;omega
def EU(r:List (List UInt8)):List UInt8:=Ju (r.filter λs=>decide (s≠[]))
def Da(a b:Af):List Int:=DF (a.rows.map EU) (b.rows.map EU)
def CE(a b:Af)(m:List Int):List (Nat×Nat):=(List.range a.rows.length).filterMap λi=>match (m[i]?:Option Int) with
 | none=>none
 | some (k:Int)=>if 0≤k∧k<b.rows.length∧EU (a.rows.getD i [])=EU (b.rows.getD k.toNat []) then some (i,k.toNat) else none
def HC(s:Af)(rs:List Nat)(c:Nat):List UInt8:=Ju (rs.map λr=>(s.rows.getD r []).getD c [])
def Bk(s:Af)(rs:List Nat):List (List UInt8):=(List.range s.cols.toNat).map (HC s rs)
def HD(a b:Af)(m:List Int):List Int:=DF (Bk a ((CE a b m).map Prod.fst)) (Bk b ((CE a b m).map Prod.snd))
theorem SP(a:Af):Da a a=GD a.rows.length:=by rw[Da,KC];simp
theorem Rb(a:Af):(CE a a (GD a.rows.length)).map Prod.fst=(CE a a (GD a.rows.length)).map Prod.snd:=by
 unfold CE;rw[List.map_filterMap,List.map_filterMap]
 congr 1
 funext i
 simp only[GD,AbA];by_cases h:i<a.rows.length
 ·simp[h]
 ·rw[AbK Afa];rfl
theorem Ru(a:Af):HD a a (GD a.rows.length)=GD a.cols.toNat:=by
 rw[HD,Rb,KC];simp[Bk]
section
variable {α:Type} [DecidableEq α]
def K1:List α→List α→Nat→List Int
 | [],_,_=>[]
 | _::a,[],k=>-1::K1 a [] k
 | x::a,y::b,k=>if x=y then(k:Int)::K1 a b (k+1) else if Dl (x::a) b≤Dl a (y::b) then -1::K1 a (y::b) k else K1 (x::a) b (k+1)
 termination_by a b _=>a.length+b.length
theorem LB:∀(a:List α) (k:Nat),K1 a [] k=List.replicate a.length (-1)
 | [],_=>by simp[K1]
 | x::a,k=>by rw[K1,LB a k,AaT,Ade]
theorem Ku:∀(a b:List α) (i k:Nat) (pre:List Int),pre.length=i→(Be a b i k).foldl (λl p=>l.set p.1 (p.2:Int)) (pre++List.replicate a.length (-1))=pre++K1 a b k
 | [],_,_,_,pre,_=>by simp[Be,K1]
 | x::a,[],i,k,pre,_=>by
  rw[LB]
  simp[Be]
 | x::a,y::b,i,k,pre,h=>by
  rw[Be,K1]
  split
  ·rw[Ad7];simp only[AaT,Ade];rw[AcY _ _ Aez,h,Adc,Ad4];have:=Ku a b (i+1) (k+1) (pre++[(k:Int)]) (by simp[h]);rw[Abh,AdB] at this;rw[this,Abh,AdB]
  split
  ·have:=Ku a (y::b) (i+1) k (pre++[-1]) (by simp[h]);rw[Abh,AdB] at this;simp only[AaT,Ade];rw[this,Abh,AdB]
  ·exact Ku (x::a) b i (k+1) pre h
 termination_by a b _ _ _=>a.length+b.length
theorem Ux(a b:List α):Cj a.length (Be a b 0 0)=K1 a b 0:=by
 have:=Ku a b 0 0 [] rfl
 simpa[Cj] using this
theorem My{new:Int}:∀{l:List Int} {last last':Int},CP new last l=true→last'≤last→CP new last' l=true
 | [],_,_,_,_=>rfl
 | z::r,last,last',h,hl=>by
  rw[CP] at h ⊢
  split at h
  ·rename_i e;rw[if_pos e];exact My h hl
  ·rename_i e;rw[if_neg e]
   split at h
   ·cases h
   ·rw[if_neg Aez];exact h
theorem O4(new last:Int):∀n:Nat,CP new last (List.replicate n (-1))=true
 | 0=>rfl
 | n+1=>by rw[Ade,CP,if_pos rfl,O4 new last n]
theorem Jc:∀(a b:List α) (k:Nat),CP ((k+b.length:Nat):Int) ((k:Int) - 1) (K1 a b k)=true
 | [],_,_=>by simp[K1,CP]
 | x::a,[],k=>by rw[LB];exact O4 _ _ _
 | x::a,y::b,k=>by
  rw[K1]
  split
  ·rw[CP,if_neg Aez,if_neg (by simp only[AaT];omega)];have:=Jc a b (k+1);rw[show k+(y::b).length=k+1+b.length by simp only[AaT];omega];rw[show(((k+1:Nat):Int) - 1)=(k:Int) by omega] at this;exact this
  split
  ·rw[CP,if_pos rfl];exact Jc a (y::b) k
  ·have:=Jc (x::a) b (k+1);rw[show k+(y::b).length=k+1+b.length by simp only[AaT];omega];exact My this Aez
 termination_by a b _=>a.length+b.length
theorem Od{new:Int}:∀{l:List Int} {last:Int},CP new last l=true→Dm new l≤new
 | [],_,_=>AdL _
 | z::r,last,h=>by
  rw[CP] at h;rw[Dm]
  split at h
  ·rename_i e;rw[if_neg Aez];exact Od h
  ·split at h
   ·cases h
   ·rename_i e1 e2
    split
    ·omega
    ·exact Od h
theorem Mz{new f:Int}:∀{l:List Int} {last:Int},-1≤last→CP new last l=true→last≤f→f<Dm new l→CP new f l=true
 | [],_,_,_,_,_=>rfl
 | z::r,last,h0,h,hl,hf=>by
  rw[CP] at h ⊢;rw[Dm] at hf
  split at h
  ·rename_i e;rw[if_neg Aez] at hf;rw[if_pos e];exact Mz h0 h hl hf
  ·rename_i e;rw[if_neg e]
   split at h
   ·cases h
   ·rw[if_pos Aez] at hf;rw[if_neg Aez];exact h
theorem Jb{new:Int}:∀{l:List Int} {free:Int},0≤free→CP new (free - 1) l=true→CP new (free - 1) (EL new free l)=true
 | [],_,_,_=>rfl
 | k::r,free,h0,h=>by
  rw[CP] at h;rw[EL];by_cases e:k=-1
  ·rw[if_pos e] at h;rw[if_neg Aez];by_cases hn:free<Dm new r
   ·rw[if_pos hn,CP,if_neg Aez,if_neg (by have:=Od h;omega)];have h2:=Mz (f:=free) Aez h Aez hn;have:=Jb (free:=free+1) (l:=r) Aez (by rw[show free+1 - 1=free by omega];exact h2)
    rwa [show free+1 - 1=free by omega] at this
   ·rw[if_neg hn,CP,if_pos rfl];exact Jb h0 h
  ·rw[if_neg e] at h
   split at h
   ·cases h
   ·rename_i hc;rw[if_pos Aez,CP,if_neg e,if_neg hc];have:=Jb (free:=k+1) (l:=r) Aez (by rw[show k+1 - 1=k by omega];exact h)
    rwa [show k+1 - 1=k by omega] at this
theorem JO(a b:List α)(ha:a.length≤1048576)(hb:b.length≤1048576):Ij ⟨DF a b,b.length⟩=true:=by
 have h1:CP (b.length:Int) (-1) (DF a b)=true:=by
  rw[DF,Ux];have:=Jc a b 0;simp only[AbW] at this;exact Jb (free:=0) (AdL _) this
 simp[Ij,h1,IA];omega
end
def Bx(a b:Af):BP:={sheet:=a.name,rows:=⟨Da a b,b.rows.length⟩,cols:=⟨HD a b (Da a b),((b.cols.toNat:Nat):Int)⟩,gone:=false}
theorem UP{a b:Af}(ha:AJ a=true)(hb:AJ b=true):(Bx a b).May:=by
 have key:∀s:Af,AJ s=true→s.rows.length≤24∧s.cols≤12:=λs h=>by
  simp only[AJ,Abf,decide_eq_true_eq] at h;omega
 obtain⟨a1,a2⟩:=key a ha;obtain⟨b1,b2⟩:=key b hb;refine⟨?_,?_⟩
 ·have:=JO (a.rows.map EU) (b.rows.map EU) Ae0 Ae0
  simpa[Bx,Da] using this
 ·have:=JO (Bk a ((CE a b (Da a b)).map Prod.fst)) (Bk b ((CE a b (Da a b)).map Prod.snd)) AfB AfB
  simpa[Bx,HD,Bk] using this
abbrev AB:=List (List (List (List UInt8)))
def AL(p c:Ag):List BP:=p.map λs=>match IW c s.name with
 | none=>⟨s.name,⟨[],0⟩,⟨[],0⟩,true⟩
 | some k=>match c[k]? with
  | none=>⟨s.name,⟨[],0⟩,⟨[],0⟩,true⟩
  | some u=>Bx s u
def JA(b:Ag)(id:List UInt8):AB:=b.map λs=>s.rows.map λr=>r.map λ_=>id
def MA(t:AB)(k x y:Nat)(v:List UInt8):AB:=t.modify k λrows=>rows.modify x λr=>r.set y v
def PY(t:AB)(k x y:Nat):List UInt8:=((t.getD k []).getD x []).getD y []
noncomputable def J4(c:Ag)(ss:List BP)(had:AB)(i k:Nat)(nm:List UInt8)(sh:BP)(r q:Nat)(text:List UInt8)(t:AB):AB:=
 let x:=AG sh.rows r
 let y:=AG sh.cols q
 if 0≤x∧0≤y∧It (c.getD k ⟨[],0,[]⟩) x y=B3 nm ss text then MA t k x.toNat y.toNat (PY had i r q) else t
noncomputable def EM(c:Ag)(ss:List BP)(had:AB)(i k:Nat)(nm:List UInt8)(sh:BP)(r:Nat)(row:List (List UInt8))(n:Nat)(t:AB):AB:=
 (List.range n).foldl (λt q=>J4 c ss had i k nm sh r q (row.getD q []) t) t
noncomputable def F8(c:Ag)(ss:List BP)(had:AB)(i k:Nat)(s:Af)(sh:BP)(n:Nat)(t:AB):AB:=
 (List.range n).foldl (λt r=>EM c ss had i k s.name sh r (s.rows.getD r []) (s.rows.getD r []).length t) t
noncomputable def Ej(p c:Ag)(had:AB)(n:Nat)(t:AB):AB:=
 (List.range n).foldl (λt i=>let s:=p.getD i ⟨[],0,[]⟩;match IW c s.name with
  | none=>t
  | some k=>F8 c (AL p c) had i k s ((AL p c).getD i ⟨[],⟨[],0⟩,⟨[],0⟩,true⟩) s.rows.length t) t
noncomputable def H7(p c:Ag)(id:List UInt8)(had:AB):AB:=Ej p c had p.length (JA c id)
noncomputable def Gg:List (List UInt8×Ag)→AB
 | []=>[]
 | (id,b)::r=>(r.foldl (λ(st:Ag×AB) x=>(x.2,H7 st.1 x.2 x.1 st.2)) (b,JA b id)).2
def DK(t:AB)(b:Ag):Prop:=t.map (λrows=>rows.map List.length)=b.map λs=>s.rows.map List.length
theorem FL(b:Ag)(id:List UInt8):DK (JA b id) b:=by
 simp only[DK,JA,Aeb];apply AcQ;intro s _;simp only[Function.comp,Aeb];apply AcQ;intro r _;simp
theorem UB(t:AB)(k x y:Nat)(v:List UInt8):(MA t k x y v).map (λrows=>rows.map List.length)=t.map λrows=>rows.map List.length:=by
 apply Ack;intro i;simp only[MA,AbA,AcA]
 cases h:t[i]? with
 | none=>rfl
 | some rows=>
  by_cases e:k=i
  ·simp only[e,if_true];show some ((rows.modify x λr=>r.set y v).map List.length)=some (rows.map List.length)
   congr 1
   apply Ack;intro j;simp only[AbA,AcA]
   cases rows[j]? with
   | none=>rfl
   | some r=>by_cases e:x=j<;>simp[e]
  ·simp[e]
theorem Ec{β:Type}{P:AB→Prop}{f:AB→β→AB}(hf:∀t x,P t→P (f t x)):∀(l:List β) (t:AB),P t→P (l.foldl f t)
 | [],_,h=>h
 | x::r,t,h=>Ec hf r _ (hf t x h)
theorem NC{c:Ag}{ss:List BP}{had:AB}{i k:Nat}{nm:List UInt8}{sh:BP}{r q:Nat}{text:List UInt8}{t:AB}{b:Ag}(h:DK t b):DK (J4 c ss had i k nm sh r q text t) b:=by
 unfold J4;simp only
 split
 ·unfold DK at h ⊢;rw[UB];exact h
 ·exact h
theorem OE(p c:Ag)(id:List UInt8)(had:AB):DK (H7 p c id had) c:=by
 unfold H7 Ej;refine Ec (P:=λt=>DK t c) (λt i h=>?_) _ _ (FL c id);simp only
 split
 ·exact h
 ·exact Ec (P:=λt=>DK t c) (λt r h=>Ec (P:=λt=>DK t c) (λt q h=>NC h) _ _ h) _ _ h
theorem KO{b:Ag}(hb:b.Pairwise (λs u=>Op.bytesLess s.name u.name=true)):AL b b=b.map λs=>⟨s.name,Cs s.rows.length,Cs s.cols.toNat,false⟩:=by
 unfold AL;apply AcQ;intro s hs;obtain⟨i,hi⟩:=Acy hs;rw[TI hb hi];simp only[hi,Bx,SP,Ru];rfl
theorem Xj{b:Ag}(hb:A5 b=true){l:List Ah}(hp:∀x∈l,Ar x=true)(own:List UInt8):AaF (AL b b) l own:=λx hx hk s hf=>by
 obtain⟨h1,h2,h3⟩:=AP.1 hb;have hs:=(Hk hf).1;rw[KO h3] at hs;simp only[Acu] at hs;obtain⟨u,hu,rfl⟩:=hs;have hm:=h2 u hu;simp only[AJ,Abf,decide_eq_true_eq] at hm;exact Yg (a:=u.rows.length) (b:=u.cols.toNat) Aez Aez rfl rfl rfl (hp x hx) hk
def DH(new:Int):List Int→List Int
 | []=>[]
 | k::r=>(if 0≤k then k else -1 - Dm new r)::DH new r
theorem L6(new:Int):∀l:List Int,(DH new l).length=l.length
 | []=>rfl
 | _::r=>by simp[DH,L6 new r]
theorem Ms{new M:Int}(h0:0≤new)(h1:new≤M):∀{l:List Int},(∀z∈l,z≤M)→0≤Dm new l∧Dm new l≤M
 | [],_=>⟨h0,h1⟩
 | k::r,h=>by
  unfold Dm
  split
  ·exact⟨by assumption,h k Ae7⟩
  ·exact Ms h0 h1 λz hz=>h z (by simp[hz])
theorem Ix{l:List Int}{j:Nat}{z:Int}(h:l[j]?=some z):l.drop j=z::l.drop (j+1):=by
 obtain⟨hj,rfl⟩:=Aav.1 h;exact AcV hj
def He(new:Int)(l:List Int)(i:Nat):List Int:=l.take i++DH new (l.drop i)
theorem Wc(new:Int)(l:List Int):He new l l.length=l:=by simp[He,DH]
theorem TO(new:Int)(l:List Int):He new l 0=DH new l:=by simp[He]
theorem Zc{l:List Int}{j:Nat}{z:Int}(h:l[j]?=some z):l.take (j+1)=l.take j++[z]:=by rw[Aco,h];rfl
theorem TK{new:Int}{l:List Int}{i:Nat}{z:Int}(h:l[i]?=some z)(hz:0≤z):He new l i=He new l (i+1)∧Dm new (l.drop i)=z:=by
 rw[He,He,Ix h,Zc h,DH,if_pos hz,Abh];exact⟨rfl,by rw[Dm,if_pos hz]⟩
theorem TN{new:Int}{l:List Int}{i:Nat}{z:Int}(h:l[i]?=some z)(hz:¬0≤z):(He new l (i+1)).set i (-1 - Dm new (l.drop (i+1)))=He new l i∧Dm new (l.drop i)=Dm new (l.drop (i+1)):=by
 have hi:=(Aav.1 h).1;rw[He,He,Ix h,Zc h,DH,if_neg hz,Abh,AcY _ _ (by rw[Ac3];omega),Ac3,Nat.min_eq_left Aez,Adc];exact⟨rfl,by rw[Dm,if_neg hz]⟩
structure J9(new:Int)(l:List Int)(j:Nat)(done:List Int)(free:Int):Prop where
 len:done.length=j
 done:done++EL new free (l.drop j)=EL new 0 l
 free0:0≤free
theorem J9.start(new:Int)(l:List Int):J9 new l 0 [] 0:=⟨rfl,by simp,by omega⟩
theorem J9.kept{new:Int}{l:List Int}{j:Nat}{done:List Int}{free z:Int}(h:J9 new l j done free)(hz:l[j]?=some z)(h0:0≤z):J9 new l (j+1) (done++[z]) (z+1):=
 ⟨by simp[h.len],by rw[←h.done,Ix hz,EL,if_pos h0];simp,by omega⟩
theorem J9.fill{new:Int}{l:List Int}{j:Nat}{done:List Int}{free z:Int}(h:J9 new l j done free)(hz:l[j]?=some z)(h0:¬0≤z)(hf:free<Dm new (l.drop (j+1))):J9 new l (j+1) (done++[free]) (free+1):=
 ⟨by simp[h.len],by rw[←h.done,Ix hz,EL,if_neg h0,if_pos hf];simp,by have:=h.free0;omega⟩
theorem J9.gone{new:Int}{l:List Int}{j:Nat}{done:List Int}{free z:Int}(h:J9 new l j done free)(hz:l[j]?=some z)(h0:¬0≤z)(hf:¬free<Dm new (l.drop (j+1))):J9 new l (j+1) (done++[-1]) free:=
 ⟨by simp[h.len],by rw[←h.done,Ix hz,EL,if_neg h0,if_neg hf];simp,h.free0⟩
theorem J9.all{new:Int}{l:List Int}{done:List Int}{free:Int}(h:J9 new l l.length done free):done=EL new 0 l:=by
 rw[←h.done];simp[EL]
theorem Wu{new:Int}{l:List Int}{j:Nat}{z x:Int}{done:List Int}(hl:done.length=j)(hz:l[j]?=some z):(done++DH new (l.drop j)).set j x=(done++[x])++DH new (l.drop (j+1)):=by
 rw[Ix hz,DH,AcY _ _ Aez,hl,Adc];simp
theorem ZE{new:Int}{l:List Int}{j:Nat}{z:Int}{done:List Int}(hl:done.length=j)(hz:l[j]?=some z):(done++DH new (l.drop j))[j]?=some (if 0≤z then z else -1 - Dm new (l.drop (j+1))):=by
 rw[Ix hz,DH,Ace Aez,hl,Adc];rfl
theorem Ye{new:Int}{l:List Int}{j:Nat}{z:Int}{done:List Int}(hz:l[j]?=some z)(h0:0≤z):done++DH new (l.drop j)=(done++[z])++DH new (l.drop (j+1)):=by
 rw[Ix hz,DH,if_pos h0];simp
abbrev Eu(lo:Nat)(w:World)(v:Value)(l:List UInt8):Prop:=A3 w lo 5 1 v l.length (AM l)
theorem Rl(l:List UInt8):(AM l).length=l.length:=by simp[AM]
theorem JD(l m:List UInt8):AM (l++m)=AM l++AM m:=by simp[AM]
theorem TQ(l:List UInt8):∀u∈AM l,u.oneCell'=true:=λu hu=>by
 simp only[AM,Acu] at hu;obtain⟨b,_,rfl⟩:=hu;rfl
theorem AaX:∀k,k<256→bits .or .u8 ((k:Nat):Int) 128=((k % 128+128:Nat):Int):=by decide +kernel
theorem Aby(m:Nat):bits .or .u8 ((UInt8.ofNat m).toNat:Int) 128=((UInt8.ofNat (m % 128+128)).toNat:Int):=by
 have e:(UInt8.ofNat m).toNat=m % 256:=Ae7
 rw[e,AaX _ (Aeq _ Ae2),Tx Aez]
 congr 1
 omega
theorem SD:∀(k n:Nat),0<k→n<128 ^ k→(GU n).length≤k
 | 0,_,h,_=>by omega
 | k+1,n,_,h=>by
  by_cases h1:n<128
  ·rw[Ow h1];simp
  ·have hk:0<k:=by
    rcases Aee k with e | e
    ·subst e;simp at h;omega
    ·exact e
   rw[SB Aez,AaT];have:=SD k (n / 128) hk (by rw[Nat.pow_succ] at h;omega);omega
theorem EZ{n:Nat}(h:n≤9223372036854775807):(GU n).length≤10:=SD 10 n Ae2 (Nat.lt_of_le_of_lt h Ae2)
theorem SE{s:List UInt8}(h:s.length≤1000000):(JS s).length≤1000010:=by
 have:=EZ (n:=s.length) Aez;rw[JS,Aax];omega
theorem M2:∀{l:List (List UInt8)},(∀s∈l,s.length≤1000000)→(l.flatMap JS).length≤l.length*1000010
 | [],_=>by simp
 | s::l,h=>by
  have:=M2 (l:=l) λu hu=>h u (Aci _ hu);have:=SE (h s (Acv ..));rw[Ac7,Aax,AaT,AcS];omega
set_option maxRecDepth 8000 in
theorem UZ(n:Nat)(hn:n≤9223372036854775807)(w:World):AF prog 177 [.int .i64 (n:Int)] w (λv w'=>Eu w.heap.size w' v (GU n)∧Ae w w'):=by
 refine AQ func177 ntmps177 ?_;refine Su ?_;refine CW.loop (ι:=Nat×List UInt8×Value) (λx w'=>x.2.1++GU x.1=GU n∧x.1≤n∧Ae w w'∧A3 w' w.heap.size 5 1 x.2.2 x.2.1.length (AM x.2.1)) (λx=>[(0,.int .i64 x.1),(3,x.2.2)]) (λx=>x.1) (n,[],.slice none 0 0) ⟨rfl,Ab9 _,Chg.refl _ _,A3.nil _ _ _ _⟩ EH ?_;rintro⟨m,out,ov⟩ w1 ⟨a2,a5,a3,hO⟩;dsimp only at a2 a5 hO;show CW _ _ _ _ _ [(0,.int .i64 (m:Int)),(3,ov)] _;have a8:out.length≤10:=by
  have:=congrArg List.length a2;rw[Aax] at this;have:=EZ hn;omega
 refine Su ?_;refine Av (λh1=>?_) λh1=>?_
 ·have h1:128≤m:=by simp at h1;omega
  refine Su ?_;refine LW.val rfl rfl rfl (Y.low (m:=m) rfl rfl rfl rfl rfl) ?_;refine LW.bits (z:=((UInt8.ofNat (m % 128+128)).toNat:Int)) rfl rfl rfl (Aby m) rfl ?_;refine Cx λB w2 a6 a0 hB=>?_;refine LW.append (lo:=w.heap.size) (k:=out.length) rfl rfl rfl rfl rfl rfl (hO.ext a0) (by have:=a3.size;have:=a0.size;omega) hB rfl rfl rfl (by show(out.length+1)*2≤_;omega) rfl ?_;intro v3 w3 a4 a1 a7;replace a1:A3 w3 w.heap.size 5 1 v3 (out.length+1) (AM out++AM [UInt8.ofNat (m % 128+128)]):=a1;rw[←JD] at a1;refine Su ?_;refine LW.shr (m:=7) (z:=((m / 128:Nat):Int)) rfl rfl Ae2 (by rw[show(2:Int) ^ 7=128 by decide];omega) rfl ?_;refine Su ?_;exact QW.again (m / 128,out++[UInt8.ofNat (m % 128+128)],v3) ⟨by
   rw[←a2,SB (n:=m) h1];simp,by show m / 128≤n;omega,(a3.trans a0).step a4 (λb hb=>by have:=(hO.lt hb).1;omega),by
   show A3 _ _ _ _ v3 (out++[UInt8.ofNat (m % 128+128)]).length _;rw[Aax];exact a1⟩ EH (by show m / 128<m;omega)
 have h1:m<128:=by simp at h1;omega
 refine Su ?_;refine Cx λB w2 a6 a0 hB=>?_;replace hB:Blk w2 B (AM [UInt8.ofNat m]) 5:=by
  have e:(m:Int)=((UInt8.ofNat m).toNat:Int):=by rw[Tx Aez]
  rw[e] at hB;exact hB
 refine LW.append (lo:=w.heap.size) (k:=out.length) rfl rfl rfl rfl rfl rfl (hO.ext a0) (by have:=a3.size;have:=a0.size;omega) hB rfl rfl rfl (by show(out.length+1)*2≤_;omega) rfl ?_;intro v3 w3 a4 a1 a7;rw[←JD] at a1;refine Su ?_;refine QW.body1 rfl rfl ⟨?_,(a3.trans a0).step a4 (λb hb=>by have:=(hO.lt hb).1;omega)⟩;rw[←a2,Ow h1];show A3 _ _ _ _ v3 (out++[UInt8.ofNat m]).length _;rw[Aax];exact a1
theorem Eu.app{lo:Nat}{w:World}{v:Value}{l m:List UInt8}(h:A3 w lo 5 1 v (l.length+m.length) (AM l++AM m)):Eu lo w v (l++m):=by
 show A3 _ _ _ _ v (l++m).length _;rw[Aax,JD];exact h
theorem Eu.bytes'{lo:Nat}{w:World}{p:Option Addr}{c:Nat}{l:List UInt8}(h:Eu lo w (.slice p l.length c) l):p=none∧l.length=0∨∃a,p=some a∧∀j u,(AM l)[j]?=some u→w.cell? (a.add j)=some u:=by
 obtain⟨hx,⟨e,e2⟩ | ⟨g,cap,sp,e,hB,h1,h2,h3⟩⟩:=h
 ·simp only[Acj] at e;exact .inl ⟨e.1,e2⟩
 ·simp only[Acj] at e;refine .inr ⟨_,e.1,λj u hj=>?_⟩;rw[An];refine hB.cell ?_;rw[AbW,Abg (Aav.1 hj).1];exact hj
theorem QT(s:List UInt8)(hs:s.length≤1000000)(w:World):AF prog 178 [Am s] w (λv w'=>Eu w.heap.size w' v (JS s)∧Ae w w'):=by
 refine AQ func178 ntmps178 ?_;refine Su ?_;refine Ax rfl rfl (UZ s.length Aez w) ?_;rintro v w1 ⟨hO,a0⟩;obtain⟨p,c,rfl⟩:=hO.slice;have:=EZ (n:=s.length) Aez;refine Su ?_;refine LW.append_str (k:=(GU s.length).length) (xs:=AM (GU s.length)) (s:=s) rfl rfl rfl rfl rfl rfl rfl rfl rfl hO a0.size (by show((GU s.length).length+s.length)*2≤_;omega) rfl ?_;intro v2 w2 a1 a2 a3;refine Su ?_;exact QW.body1 rfl rfl ⟨Eu.app a2,a0.step a1 (λb hb=>by have:=(hO.lt hb).1;omega)⟩
theorem US{ok:Addr→Prop}{w:World}{v:Value}{l:List (List UInt8)}(h:A4 ok w v l):∀s∈l,s.length≤1000000:=λs hs=>by
 obtain⟨i,hi⟩:=Acy hs;obtain⟨p,c,rfl⟩:=h.slice;exact(A4.at h hi).choose_spec.2.2.1
theorem WW{l:List (List UInt8)}(h:∀s∈l,s.length≤1000000)(hl:l.length≤1000000)(k:Nat):(GU l.length++(l.take k).flatMap JS).length≤10+1000000*1000010:=by
 have h1:=EZ (n:=l.length) Aez;have h2:=M2 (l:=l.take k) λs hs=>h s (Ac5 hs);have h3:(l.take k).length*1000010≤1000000*1000010:=AdF _ (by rw[Ac3];omega);rw[Aax];omega
theorem Md(l:List (List UInt8))(tv:Value)(w:World)(h:CD w tv l):AF prog 132 [tv] w (λv w'=>Eu w.heap.size w' v (Ju l)∧Ae w w'):=by
 obtain⟨p,c,rfl⟩:=h.slice;have hl:=h.1;have hs:=US h;refine AQ func132 ntmps132 ?_;refine Su ?_;refine Ax rfl rfl (UZ l.length Aez w) ?_;rintro v w1 ⟨hO,a6⟩;refine Su ?_;refine CW.loop (ι:=Nat×Value) (λx w'=>x.1≤l.length∧Ae w w'∧Eu w.heap.size w' x.2 (GU l.length++(l.take x.1).flatMap JS)) (λx=>[(3,x.2),(9,.slice p l.length c),(10,.int .i64 l.length),(11,.int .i64 x.1)]) (λx=>l.length - x.1) (0,v) ⟨by omega,a6,by rw[List.take_zero,Aen,Acq];exact hO⟩ B9 ?_;rintro⟨k,ov⟩ w2 ⟨hk,a1,a0⟩;dsimp only at hk a0;show CW _ _ _ _ _ [(3,ov),(9,.slice p l.length c),(10,.int .i64 l.length),(11,.int .i64 (k:Int))] _;refine Su ?_;refine Av (λh1=>?_) λh1=>?_;rotate_left
 ·have h1:k=l.length:=by simp at h1;omega
  subst h1;refine Su ?_;refine QW.body1 rfl rfl ⟨?_,a1⟩;rw[Acs] at a0;exact a0
 have h1:k<l.length:=by simp at h1;omega
 obtain⟨s,a3⟩:∃s,l[k]?=some s:=⟨_,Aak h1⟩;obtain⟨a,rfl,-,a4,hc⟩:=A4.at (A4.ext h a1) a3;refine Su ?_;refine Ax rfl rfl (QT s a4 w2) ?_;rintro u w3 ⟨a5,a2⟩;obtain⟨pu,cu,rfl⟩:=a5.slice;have hb:=WW hs hl k;have ht:=SE a4;have hq:=(Eu.bytes' a5);refine Su ?_;refine LW.append_any (lo:=w.heap.size) (k:=(GU l.length++(l.take k).flatMap JS).length) (xs:=AM (GU l.length++(l.take k).flatMap JS)) (news:=AM (JS s)) rfl rfl rfl rfl rfl rfl (a0.ext a2) (by have:=a1.size;have:=a2.size;omega) (by rw[Rl];show _=_*1;omega) hq (TQ _) (by show(_+(JS s).length)*2≤_;omega) rfl ?_;intro v4 w4 a7 a8 a9;refine Su ?_;exact QW.again (k+1,v4) ⟨h1,(a1.trans a2).step a7 (λb hb=>by have:=(a0.lt hb).1;omega),by
  have:=Eu.app a8;rw[Abh] at this;show Eu _ _ v4 (GU l.length++(l.take (k+1)).flatMap JS);rw[Aco,a3,Adz]
  simpa using this⟩ B9 (by show l.length - (k+1)<l.length - k;omega)
end Go.Proofs.YtefaigjfkddelaaGreatDoor
