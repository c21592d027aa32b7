/-
  Joined by program out of the texts BookP BookL BookW PasP PasQ PasW OpenP CodeP AliP AliQ BlaP FillP Byt Code1 Code2.
-/
import Derived.Test.YtefaigjfkddelaaGreatDoorPkG
import Derived.Test.YtefaigjfkddelaaGreatDoorPkE
import Derived.Test.YtefaigjfkddelaaGreatDoorPkI
import Derived.Test.YtefaigjfkddelaaGreatDoorPkH
import Derived.Test.YtefaigjfkddelaaGreatDoorPkF
import Derived.Deep.Slices
import Derived.Test.YtefaigjfkddelaaGreatDoorPkB
import Derived.Lib.EndianBits
namespace Go.Proofs.YtefaigjfkddelaaGreatDoor
open Go Go.E
structure Ak where
 name:List UInt8
 cols:Int
 rows:List (List (List UInt8))
deriving DecidableEq
abbrev Ax:=List Ak
def Nw (b:Ax) (nm:List UInt8):Option Nat:=b.findIdx? (λs=>decide (s.name=nm))
def Rn:Option Nat→Int
 | some i=>i
 | none=>-1
def Jk (s:Ak) (row col:Int):List UInt8:=(s.rows.getD row.toNat []).getD col.toNat []
theorem Jg {b:Ax} {nm:List UInt8} {i:Nat} (h:Nw b nm=some i):∃s,b[i]?=some s∧s.name=nm:=by
 unfold Nw at h;rw [List.findIdx?_eq_some_iff_getElem] at h;obtain ⟨a0,e,_⟩:=h;exact ⟨b[i],List.getElem?_eq_getElem a0,by simpa using e⟩
theorem Pg {b:Ax} {x:List UInt8} (h:∀i s,i<b.length→b[i]?=some s→s.name≠x):Nw b x=none:=by
 unfold Nw;rw [List.findIdx?_eq_none_iff];intro s hs;obtain ⟨i,hi,rfl⟩:=List.getElem_of_mem hs;have:=h i _ hi (List.getElem?_eq_getElem hi)
 simpa using this
theorem Ux {b:Ax} {x:List UInt8} {k:Nat} {s:Ak} (hk:b[k]?=some s) (hs:s.name=x) (h:∀i u,i<k→b[i]?=some u→u.name≠x):Nw b x=some k:=by
 unfold Nw;rw [List.findIdx?_eq_some_iff_getElem];obtain ⟨a0,e⟩:=List.getElem?_eq_some_iff.1 hk;refine ⟨a0,by rw [e];simpa using hs,λj hj=>?_⟩;have:=h j _ hj (List.getElem?_eq_getElem (by omega))
 simpa using this
noncomputable def BV (s:Ak):Bool:=D9 s.name&&decide (0≤s.cols)&&decide (s.cols≤12)&&decide (s.rows.length≤24)&&s.rows.all λr=>decide ((r.length:Int)=s.cols)&&r.all CZ
noncomputable def FQ:Option (List UInt8)→Ax→Bool
 | _,[]=>true
 | p,s::r=>(match p with | none=>true | some q=>Op.bytesLess q s.name)&&BV s&&FQ (some s.name) r
noncomputable def Bd (b:Ax):Bool:=decide (b.length≤5)&&FQ none b
def TY (s:Ak) (row col:Nat) (t:List UInt8):Ak:={s with rows:=s.rows.modify row λr=>r.set col t}
def Np (b:Ax) (i row col:Nat) (t:List UInt8):Ax:=b.modify i λs=>TY s row col t
def W8:EW (List UInt8):=λ_ _ cs s=>cs=[Aj s]∧s.length≤1000000
abbrev Aw (ok:Addr→Prop):World→Value→List (List UInt8)→Prop:=Az 1 ok W8
def Xw (okT:Nat→Addr→Prop):EW (List (List UInt8)):=λi w cs r=>∃v,cs=[v]∧Aw (okT i) w v r
abbrev AM (okR:Addr→Prop) (okT:Nat→Addr→Prop):World→Value→List (List (List UInt8))→Prop:=Az 1 okR (Xw okT)
def A8 (s:Ak) (rv:Value):List Value:=[Aj s.name,.int .i64 s.cols,rv]
def WT (okR:Nat→Addr→Prop) (okT:Nat→Nat→Addr→Prop):EW Ak:=λi w cs s=>∃rv,cs=A8 s rv∧s.name.length≤1000000∧AM (okR i) (okT i) w rv s.rows
abbrev Al (okS:Addr→Prop) (okR:Nat→Addr→Prop) (okT:Nat→Nat→Addr→Prop):World→Value→Ax→Prop:=Az 3 okS (WT okR okT)
abbrev JT:Addr→Prop:=λ_=>True
abbrev BF:=Aw JT
abbrev D3:=AM JT (λ_=>JT)
abbrev Cp:=Al JT (λ_=>JT) (λ_ _=>JT)
theorem Aw.chg {S:List Nat} {ok:Addr→Prop} {w w':World} {v:Value} {l:List (List UInt8)} (h:Aw ok w v l) (x:Chg S w w') (hs:l≠[]→∀a,ok a→a.block∉S):Aw ok w' v l:=Az.chg h x hs λ_ _ _ _ h=>h
theorem AM.chg {S:List Nat} {okR:Addr→Prop} {okT:Nat→Addr→Prop} {w w':World} {v:Value} {l:List (List (List UInt8))} (h:AM okR okT w v l) (x:Chg S w w') (hs:∀a,okR a→a.block∉S) (ht:∀i x a,l[i]?=some x→x≠[]→okT i a→a.block∉S):AM okR okT w' v l:=
 Az.chg h x (λ_=>hs) λi y _ hi ⟨v,h1,h2⟩=>⟨v,h1,h2.chg x (λhn a ha=>ht i y a hi hn ha)⟩
theorem Al.chg {S:List Nat} {okS:Addr→Prop} {okR:Nat→Addr→Prop} {okT:Nat→Nat→Addr→Prop} {w w':World} {v:Value} {l:Ax} (h:Al okS okR okT w v l) (x:Chg S w w') (hs:∀a,okS a→a.block∉S) (hr:∀i a,i<l.length→okR i a→a.block∉S) (ht:∀i s r y a,l[i]?=some s→s.rows[r]?=some y→y≠[]→okT i r a→a.block∉S):Al okS okR okT w' v l:=
 Az.chg h x (λ_=>hs) λi s _ hi ⟨v,h1,h2,h3⟩=>⟨v,h1,h2,h3.chg x (λa ha=>hr i a (List.getElem?_eq_some_iff.1 hi).1 ha) (λr y a hr hn ha=>ht i s r y a hi hr hn ha)⟩
theorem Aw.ext {ok:Addr→Prop} {w w':World} {v:Value} {l:List (List UInt8)} (h:Aw ok w v l) (x:Ae w w'):Aw ok w' v l:=Aw.chg h x (by simp)
theorem AM.ext {okR:Addr→Prop} {okT:Nat→Addr→Prop} {w w':World} {v:Value} {l:List (List (List UInt8))} (h:AM okR okT w v l) (x:Ae w w'):AM okR okT w' v l:=AM.chg h x (by simp) (by simp)
theorem Al.ext {okS:Addr→Prop} {okR:Nat→Addr→Prop} {okT:Nat→Nat→Addr→Prop} {w w':World} {v:Value} {l:Ax} (h:Al okS okR okT w v l) (x:Ae w w'):Al okS okR okT w' v l:=Al.chg h x (by simp) (by simp) (by simp)
theorem AM.of {okR:Addr→Prop} {okT:Nat→Addr→Prop} {w:World} {v:Value} {l:List (List (List UInt8))} (h:AM okR okT w v l):D3 w v l:=
 Az.map h (λ_ _=>trivial) λ_ _ _ _ ⟨v,h1,h2⟩=>⟨v,h1,Az.map h2 (λ_ _=>trivial) λ_ _ _ _ h=>h⟩
theorem Aw.at {ok:Addr→Prop} {w:World} {p:Option Addr} {c:Nat} {l:List (List UInt8)} (h:Aw ok w (.slice p l.length c) l) {i:Nat} {s:List UInt8} (hi:l[i]?=some s):∃a,p=some a∧ok a∧s.length≤1000000∧w.cell? (a.add (((i:Nat):Int).toNat*1))=some (Aj s):=by
 obtain ⟨a,u,h1,h2,⟨h3,h4⟩,h5⟩:=h.at1 hi;simp only [List.cons.injEq,and_true] at h3;subst h3;exact ⟨a,h1,h2,h4,h5⟩
theorem AM.at {okR:Addr→Prop} {okT:Nat→Addr→Prop} {w:World} {p:Option Addr} {c:Nat} {l:List (List (List UInt8))} (h:AM okR okT w (.slice p l.length c) l) {i:Nat} {r:List (List UInt8)} (hi:l[i]?=some r):∃a q k,p=some a∧okR a∧Aw (okT i) w (.slice q r.length k) r∧w.cell? (a.add (((i:Nat):Int).toNat*1))=some (.slice q r.length k):=by
 obtain ⟨a,u,h1,h2,⟨v,h3,h4⟩,h5⟩:=h.at1 hi;simp only [List.cons.injEq,and_true] at h3;subst h3;obtain ⟨q,k,rfl⟩:=h4.slice;exact ⟨a,q,k,h1,h2,h4,h5⟩
theorem Al.at {okS:Addr→Prop} {okR:Nat→Addr→Prop} {okT:Nat→Nat→Addr→Prop} {w:World} {p:Option Addr} {c:Nat} {l:Ax} (h:Al okS okR okT w (.slice p l.length c) l) {i:Nat} {s:Ak} (hi:l[i]?=some s):∃a q k,p=some a∧okS a∧s.name.length≤1000000∧AM (okR i) (okT i) w (.slice q s.rows.length k) s.rows∧∀j u,(A8 s (.slice q s.rows.length k))[j]?=some u→w.cell? ((a.add (((i:Nat):Int).toNat*3)).add j)=some u:=by
 obtain ⟨a,cs,h1,h2,h3,⟨rv,rfl,h4,h5⟩,h6⟩:=Az.at h hi;obtain ⟨q,k,rfl⟩:=h5.slice;exact ⟨a,q,k,h1,h2,h4,h5,h6⟩
theorem Mp:∀{a b c:List UInt8},Op.bytesLess a b=true→Op.bytesLess b c=true→Op.bytesLess a c=true
 | [],b,[],h,k=>by cases b<;>simp [Op.bytesLess] at h k
 | [],_,_::_,_,_=>by simp [Op.bytesLess]
 | _::_,[],_,h,_=>by simp [Op.bytesLess] at h
 | _::_,_::_,[],_,k=>by simp [Op.bytesLess] at k
 | x::a,y::b,z::c,h,k=>by
  simp only [Op.bytesLess,Bool.or_eq_true,Bool.and_eq_true,decide_eq_true_eq,beq_iff_eq] at h k ⊢;rcases h with h | ⟨rfl,h⟩
  ·rcases k with k | ⟨rfl,k⟩
   ·exact .inl (UInt8.lt_trans h k)
   ·exact .inl h
  ·rcases k with k | ⟨rfl,k⟩
   ·exact .inl k
   ·exact .inr ⟨rfl,Mp h k⟩
theorem IG:∀{b:Ax} {p:Option (List UInt8)},FQ p b=true→(∀s∈b,BV s=true∧∀q,p=some q→Op.bytesLess q s.name=true)∧b.Pairwise (λs u=>Op.bytesLess s.name u.name=true)
 | [],_,_=>⟨by simp,.nil⟩
 | s::r,p,h=>by
  simp only [FQ,Bool.and_eq_true] at h;obtain ⟨⟨h1,h2⟩,h3⟩:=h;obtain ⟨h4,h5⟩:=IG h3;refine ⟨λu hu=>?_,.cons (λu hu=>(h4 u hu).2 _ rfl) h5⟩;rcases List.mem_cons.1 hu with rfl | hu
  ·refine ⟨h2,λq hq=>?_⟩;subst hq;exact h1
  ·refine ⟨(h4 u hu).1,λq hq=>?_⟩;subst hq;exact Mp h1 ((h4 u hu).2 _ rfl)
theorem PJ:∀{b:Ax} {p:Option (List UInt8)},(∀s∈b,BV s=true∧∀q,p=some q→Op.bytesLess q s.name=true)→b.Pairwise (λs u=>Op.bytesLess s.name u.name=true)→FQ p b=true
 | [],_,_,_=>rfl
 | s::r,p,h,k=>by
  obtain ⟨k1,k2⟩:=List.pairwise_cons.1 k;simp only [FQ,Bool.and_eq_true];refine ⟨⟨?_,(h s (List.mem_cons_self ..)).1⟩,PJ (λu hu=>⟨(h u (List.mem_cons_of_mem _ hu)).1,λq hq=>?_⟩) k2⟩
  ·cases p with
   | none=>rfl
   | some q=>exact (h s (List.mem_cons_self ..)).2 q rfl
  ·simp only [Option.some.injEq] at hq;rw [←hq];exact k1 u hu
theorem CM {b:Ax}:Bd b=true↔b.length≤5∧(∀s∈b,BV s=true)∧b.Pairwise (λs u=>Op.bytesLess s.name u.name=true):=by
 unfold Bd;rw [Bool.and_eq_true,decide_eq_true_eq];constructor
 ·rintro ⟨h1,h2⟩;exact ⟨h1,λs hs=>((IG h2).1 s hs).1,(IG h2).2⟩
 ·rintro ⟨h1,h2,h3⟩;exact ⟨h1,PJ (λs hs=>⟨h2 s hs,λq hq=>by cases hq⟩) h3⟩
theorem Vs (b:Ax) (i row col:Nat) (t:List UInt8) (j:Nat):(Np b i row col t)[j]?=if i=j then (b[j]?).map (λs=>TY s row col t) else b[j]?:=by
 unfold Np;rw [List.getElem?_modify]
 split<;>simp
def X0:EW (List UInt8):=λ_ _ cs s=>cs=[Aj s]∧s.length≤9223372036854775807
abbrev Fo:World→Value→List (List UInt8)→Prop:=Az 1 JT X0
def XI:EW (List (List UInt8)):=λ_ w cs r=>∃v,cs=[v]∧Fo w v r
abbrev Gi:World→Value→List (List (List UInt8))→Prop:=Az 1 JT XI
def Wj:EW Ak:=λ_ w cs s=>∃rv,cs=A8 s rv∧s.name.length≤1000000∧Gi w rv s.rows
abbrev C8:World→Value→Ax→Prop:=Az 3 JT Wj
theorem Fo.ext {w w':World} {v:Value} {l:List (List UInt8)} (h:Fo w v l) (x:Ae w w'):Fo w' v l:=Az.ext' h x λ_ _ _ _ h=>h
theorem Gi.ext {w w':World} {v:Value} {l:List (List (List UInt8))} (h:Gi w v l) (x:Ae w w'):Gi w' v l:=Az.ext' h x λ_ _ _ _ ⟨v,e,h⟩=>⟨v,e,Fo.ext h x⟩
theorem C8.ext {w w':World} {v:Value} {l:Ax} (h:C8 w v l) (x:Ae w w'):C8 w' v l:=Az.ext' h x λ_ _ _ _ ⟨rv,e,hn,h⟩=>⟨rv,e,hn,Gi.ext h x⟩
theorem Fo.at {w:World} {p:Option Addr} {c:Nat} {l:List (List UInt8)} (h:Fo w (.slice p l.length c) l) {i:Nat} {s:List UInt8} (hi:l[i]?=some s):∃a,p=some a∧JT a∧s.length≤9223372036854775807∧w.cell? (a.add (((i:Nat):Int).toNat*1))=some (Aj s):=by
 obtain ⟨a,u,h1,h2,⟨e,h3⟩,h4⟩:=Az.at1 h hi;obtain rfl:=(List.cons.inj e).1;exact ⟨a,h1,h2,h3,h4⟩
theorem Gi.at {w:World} {p:Option Addr} {c:Nat} {l:List (List (List UInt8))} (h:Gi w (.slice p l.length c) l) {i:Nat} {r:List (List UInt8)} (hi:l[i]?=some r):∃a q k,p=some a∧JT a∧Fo w (.slice q r.length k) r∧w.cell? (a.add (((i:Nat):Int).toNat*1))=some (.slice q r.length k):=by
 obtain ⟨a,u,h1,h2,⟨u',e,h3⟩,h4⟩:=Az.at1 h hi;obtain rfl:=(List.cons.inj e).1;obtain ⟨q,k,rfl⟩:=Az.slice h3;exact ⟨a,q,k,h1,h2,h3,h4⟩
theorem C8.at {w:World} {p:Option Addr} {c:Nat} {l:Ax} (h:C8 w (.slice p l.length c) l) {i:Nat} {s:Ak} (hi:l[i]?=some s):∃a q k,p=some a∧JT a∧s.name.length≤1000000∧Gi w (.slice q s.rows.length k) s.rows∧∀j u,(A8 s (.slice q s.rows.length k))[j]?=some u→w.cell? ((a.add (((i:Nat):Int).toNat*3)).add j)=some u:=by
 obtain ⟨a,cs,h1,h2,-,⟨rv,rfl,h3,h4⟩,h5⟩:=Az.at h hi;obtain ⟨q,k,rfl⟩:=Az.slice h4;exact ⟨a,q,k,h1,h2,h3,h4,h5⟩
theorem Aw.loose {ok:Addr→Prop} {w:World} {v:Value} {l:List (List UInt8)} (h:Aw ok w v l):Fo w v l:=Az.map h (λ_ _=>trivial) λ_ _ _ _ ⟨e,h⟩=>⟨e,by omega⟩
theorem AM.loose {okR:Addr→Prop} {okT:Nat→Addr→Prop} {w:World} {v:Value} {l:List (List (List UInt8))} (h:AM okR okT w v l):Gi w v l:=Az.map h (λ_ _=>trivial) λ_ _ _ _ ⟨v,e,h⟩=>⟨v,e,Aw.loose h⟩
theorem Al.loose {okS:Addr→Prop} {okR:Nat→Addr→Prop} {okT:Nat→Nat→Addr→Prop} {w:World} {v:Value} {l:Ax} (h:Al okS okR okT w v l):C8 w v l:=Az.map h (λ_ _=>trivial) λ_ _ _ _ ⟨rv,e,hn,h⟩=>⟨rv,e,hn,AM.loose h⟩
theorem PK {s:List UInt8} (h:CZ s=true):s.length≤300:=by
 unfold CZ at h
 split at h
 ·cases h
 ·omega
theorem PL {s:Ak} (h:BV s=true):∀r∈s.rows,(r.length:Int)=s.cols∧∀t∈r,CZ t=true:=by
 simp only [BV,Bool.and_eq_true,List.all_eq_true,decide_eq_true_eq] at h;exact λr hr=>⟨(h.2 r hr).1,λt ht=>(h.2 r hr).2 t ht⟩
theorem C8.strict {w:World} {v:Value} {b:Ax} (h:C8 w v b) (hb:Bd b=true):Cp w v b:=by
 have hm:=(CM.1 hb).2.1;refine Az.map h (λ_ _=>trivial) λi s cs hi ⟨rv,e,hn,hr⟩=>⟨rv,e,hn,?_⟩;have hc:=PL (hm s (List.mem_of_getElem? hi));refine Az.map hr (λ_ _=>trivial) λr x cs hx ⟨u,e,ht⟩=>⟨u,e,?_⟩;exact Az.map ht (λ_ _=>trivial) λc t cs ht ⟨e,_⟩=>⟨e,by have:=PK ((hc x (List.mem_of_getElem? hx)).2 t (List.mem_of_getElem? ht));omega⟩
structure AF where
 id:List UInt8
 parents:List (List UInt8)
 book:Ax
 note:List UInt8
abbrev AA:=List AF
def DI:AA→List UInt8→Option Nat
 | [],_=>none
 | c::l,id=>if c.id=id then some 0 else (DI l id).map (·+1)
theorem Gk:∀{l:AA} {id:List UInt8} {k:Nat},DI l id=some k→∃c,l[k]?=some c∧c.id=id∧∀j d,j<k→l[j]?=some d→d.id≠id
 | [],_,_,h=>by cases h
 | c::l,id,k,h=>by
  rw [DI] at h
  split at h
  ·rename_i e;obtain rfl:=Option.some.inj h;exact ⟨c,rfl,e,λj d hj=>absurd hj (Nat.not_lt_zero _)⟩
  ·rename_i e
   cases hg:DI l id with
   | none=>rw [hg] at h;cases h
   | some n=>
    rw [hg] at h;obtain rfl:=Option.some.inj h;obtain ⟨d,h1,h2,h3⟩:=Gk hg;refine ⟨d,by simpa using h1,h2,λj u hj hu=>?_⟩
    cases j with
    | zero=>simp at hu;rw [←hu];exact e
    | succ j=>
     have hj':j+1<n+1:=hj;exact h3 j u (by omega) (by simpa using hu)
theorem Ga {l:AA} {id:List UInt8} {k:Nat} (h:DI l id=some k):k<l.length:=by
 obtain ⟨c,h1,-⟩:=Gk h;exact (List.getElem?_eq_some_iff.1 h1).1
theorem Jh:∀{l:AA} {id:List UInt8},DI l id=none→∀c∈l,c.id≠id
 | [],_,_=>by simp
 | c::l,id,h=>by
  rw [DI] at h
  split at h
  ·cases h
  ·rename_i e;have h2:DI l id=none:=by
    cases hg:DI l id with
    | none=>rfl
    | some n=>rw [hg] at h;cases h
   intro d hd;rcases List.mem_cons.1 hd with rfl | hd
   ·exact e
   ·exact Jh h2 d hd
theorem LG:∀{l:AA} {id:List UInt8} {k:Nat} {c:AF},l[k]?=some c→c.id=id→(∀j d,j<k→l[j]?=some d→d.id≠id)→DI l id=some k
 | [],_,_,_,h,_,_=>by simp at h
 | c::l,id,0,d,h,e,_=>by
  simp at h;subst h
  rw [DI,if_pos e]
 | c::l,id,k+1,d,h,e,hn=>by
  rw [DI,if_neg (hn 0 c (by omega) rfl),LG (k:=k) (by simpa using h) e λj u hj hu=>hn (j+1) u (by omega) (by simpa using hu)];rfl
theorem Pj {l:AA} {id:List UInt8} {n k:Nat} (h:DI (l.take n) id=some k):DI l id=some k∧k<n:=by
 obtain ⟨c,h1,h2,h3⟩:=Gk h;have hk:k<(l.take n).length:=(List.getElem?_eq_some_iff.1 h1).1;have a0:k<n:=by simp at hk;omega
 rw [List.getElem?_take_of_lt a0] at h1;exact ⟨LG h1 h2 λj d hj hd=>h3 j d hj (by rw [List.getElem?_take_of_lt (by omega)];exact hd),a0⟩
def I1 (l:AA) (i:Nat) (c:AF):Bool:=
 (DI (l.take i) c.id).isNone&&decide (c.parents.length≤2)&&!(decide (c.parents.length=2)&&decide (c.parents[0]?=c.parents[1]?))&&c.parents.all λp=>(DI (l.take i) p).isSome
def Gw (l:AA):Bool:=(List.range l.length).all λi=>match l[i]? with
 | none=>true
 | some c=>I1 l i c
theorem St {l:AA} (h:Gw l=true) {i:Nat} {c:AF} (hi:l[i]?=some c):I1 l i c=true:=by
 have h1:=List.all_eq_true.1 h i (List.mem_range.2 (List.getElem?_eq_some_iff.1 hi).1);rw [hi] at h1;exact h1
theorem UW {l:AA} (h:Gw l=true) {i:Nat} {c:AF} (hi:l[i]?=some c):DI l c.id=some i:=by
 refine LG hi rfl λj d hj hd e=>?_;have h1:=St h hi;simp only [I1,Bool.and_eq_true,Option.isNone_iff_eq_none] at h1;exact Jh h1.1.1.1 d (List.mem_of_getElem? (i:=j) (by rw [List.getElem?_take_of_lt hj];exact hd)) e
theorem EC {l:AA} (h:Gw l=true) {i:Nat} {c:AF} (hi:l[i]?=some c) {p:List UInt8} (hp:p∈c.parents):∃k,DI l p=some k∧k<i:=by
 have h1:=St h hi;simp only [I1,Bool.and_eq_true,List.all_eq_true] at h1;obtain ⟨k,hk⟩:=Option.isSome_iff_exists.1 (h1.2 p hp);exact ⟨k,Pj hk⟩
def Ej (l:AA):Nat→Option Nat→List Nat
 | 0,_=>[]
 | _+1,none=>[]
 | n+1,some k=>k::match l[k]? with
  | none=>[]
  | some c=>match c.parents with
   | []=>[]
   | p::_=>Ej l n (DI l p)
def Cm (l:AA) (id:List UInt8):List Nat:=Ej l l.length (DI l id)
theorem Ru {l:AA} (h:Gw l=true):∀(k n m:Nat),k<n→k<m→k<l.length→Ej l n (some k)=Ej l m (some k):=by
 intro k
 induction k using Nat.strongRecOn with
 | _ k ih=>
  intro n m hn hm hk;obtain ⟨n,rfl⟩:∃q,n=q+1:=⟨n - 1,by omega⟩;obtain ⟨m,rfl⟩:∃q,m=q+1:=⟨m - 1,by omega⟩;obtain ⟨c,hc⟩:∃c,l[k]?=some c:=⟨_,List.getElem?_eq_getElem hk⟩;rw [Ej,Ej,hc]
  congr 1
  simp only
  cases hp:c.parents with
  | nil=>rfl
  | cons p r=>
   simp only;obtain ⟨j,hj,a0⟩:=EC h hc (p:=p) (by rw [hp];exact List.mem_cons_self ..);rw [hj];exact ih j a0 n m (by omega) (by omega) (by omega)
theorem PG {l:AA}:∀(n:Nat) (o:Option Nat),(∀k,o=some k→k<l.length)→∀k∈Ej l n o,k<l.length
 | 0,_,_,k,h=>by simp [Ej] at h
 | n+1,none,_,k,h=>by simp [Ej] at h
 | n+1,some q,hq,k,h=>by
  rw [Ej] at h;rcases List.mem_cons.1 h with rfl | h
  ·exact hq k rfl
  ·cases hc:l[q]? with
   | none=>rw [hc] at h;simp at h
   | some c=>
    rw [hc] at h;simp only at h
    cases hp:c.parents with
    | nil=>rw [hp] at h;simp at h
    | cons p r=>
     rw [hp] at h;simp only at h;exact PG n _ (λk hk=>Ga hk) k h
def W7:FH (List UInt8):=λ_ cs s=>cs=[Aj s]∧s.length≤9223372036854775807
abbrev CD:World→Value→List (List UInt8)→Prop:=Bg 1 W7
def B7 (c:AF) (pv bv:Value):List Value:=[Aj c.id,pv,bv,Aj c.note]
def KY:FH AF:=λw cs c=>∃pv bv,cs=B7 c pv bv∧CD w pv c.parents∧c.id.length≤9223372036854775807∧∃bp bn bc,bv=.slice bp bn bc
abbrev C6:World→Value→AA→Prop:=Bg 4 KY
theorem CD.ext {w w':World} {v:Value} {l:List (List UInt8)} (h:CD w v l) (x:Ae w w'):CD w' v l:=Bg.ext h x λ_ _ h=>h
theorem KY.ext {w w':World} {cs:List Value} {c:AF} (h:KY w cs c) (x:Ae w w'):KY w' cs c:=let ⟨pv,bv,e,h1,h2⟩:=h;⟨pv,bv,e,h1.ext x,h2⟩
theorem C6.ext {w w':World} {v:Value} {l:AA} (h:C6 w v l) (x:Ae w w'):C6 w' v l:=Bg.ext h x λ_ _ h=>h.ext x
theorem CD.at {w:World} {p:Option Addr} {c:Nat} {l:List (List UInt8)} (h:CD w (.slice p l.length c) l) {i:Nat} {s:List UInt8} (hi:l[i]?=some s):∃a,p=some a∧s.length≤9223372036854775807∧w.cell? (a.add (((i:Nat):Int).toNat*1))=some (Aj s):=by
 obtain ⟨a,cs,h1,h2,⟨rfl,h3⟩,h4⟩:=Bg.at h hi;exact ⟨a,h1,h3,by have:=h4 0 _ rfl;rwa [JR] at this⟩
theorem C6.at {w:World} {p:Option Addr} {k:Nat} {l:AA} (h:C6 w (.slice p l.length k) l) {i:Nat} {c:AF} (hi:l[i]?=some c):∃a q n bv,p=some a∧CD w (.slice q c.parents.length n) c.parents∧∀j u,(B7 c (.slice q c.parents.length n) bv)[j]?=some u→w.cell? ((a.add (((i:Nat):Int).toNat*4)).add j)=some u:=by
 obtain ⟨a,cs,h1,h2,⟨pv,bv,rfl,h3,h4⟩,h5⟩:=Bg.at h hi;obtain ⟨q,n,rfl⟩:=h3.slice;exact ⟨a,q,n,bv,h1,h3,h5⟩
theorem C6.at' {w:World} {p:Option Addr} {k:Nat} {l:AA} (h:C6 w (.slice p l.length k) l) {i:Nat} {c:AF} (hi:l[i]?=some c):∃a q n bp bn bc,p=some a∧CD w (.slice q c.parents.length n) c.parents∧∀j u,(B7 c (.slice q c.parents.length n) (.slice bp bn bc))[j]?=some u→w.cell? ((a.add (((i:Nat):Int).toNat*4)).add j)=some u:=by
 obtain ⟨a,cs,h1,h2,⟨pv,bv,rfl,h3,h4,bp,bn,bc,rfl⟩,h5⟩:=Bg.at h hi;obtain ⟨q,n,rfl⟩:=h3.slice;exact ⟨a,q,n,bp,bn,bc,h1,h3,h5⟩
def Vn:FH (List (List UInt8)):=λw cs r=>∃u,cs=[u]∧CD w u r
abbrev Hf:World→Value→List (List (List UInt8))→Prop:=Bg 1 Vn
def Kt:FH Ak:=λw cs s=>∃rv,cs=A8 s rv∧s.name.length≤9223372036854775807∧Hf w rv s.rows
abbrev Cq:World→Value→Ax→Prop:=Bg 3 Kt
def HV:FH AF:=λw cs c=>∃pv bv,cs=B7 c pv bv∧CD w pv c.parents∧c.id.length≤9223372036854775807∧Cq w bv c.book
abbrev He:World→Value→AA→Prop:=Bg 4 HV
theorem Vn.ext {w w':World} {cs:List Value} {r:List (List UInt8)} (h:Vn w cs r) (x:Ae w w'):Vn w' cs r:=let ⟨u,e,h1⟩:=h;⟨u,e,h1.ext x⟩
theorem Hf.ext {w w':World} {v:Value} {l:List (List (List UInt8))} (h:Hf w v l) (x:Ae w w'):Hf w' v l:=Bg.ext h x λ_ _ h=>h.ext x
theorem Kt.ext {w w':World} {cs:List Value} {s:Ak} (h:Kt w cs s) (x:Ae w w'):Kt w' cs s:=let ⟨rv,e,h1,h2⟩:=h;⟨rv,e,h1,h2.ext x⟩
theorem Cq.ext {w w':World} {v:Value} {l:Ax} (h:Cq w v l) (x:Ae w w'):Cq w' v l:=Bg.ext h x λ_ _ h=>h.ext x
theorem HV.ext {w w':World} {cs:List Value} {c:AF} (h:HV w cs c) (x:Ae w w'):HV w' cs c:=let ⟨pv,bv,e,h1,h2,h3⟩:=h;⟨pv,bv,e,h1.ext x,h2,h3.ext x⟩
theorem He.ext {w w':World} {v:Value} {l:AA} (h:He w v l) (x:Ae w w'):He w' v l:=Bg.ext h x λ_ _ h=>h.ext x
theorem Bg.weak {α:Type} {m:Nat} {R S:FH α} {w:World} {v:Value} {l:List α} (h:Bg m R w v l) (hR:∀x cs,x∈l→R w cs x→S w cs x):Bg m S w v l:=by
 obtain ⟨h0,h | ⟨a,c,e,h⟩⟩:=h
 ·exact ⟨h0,.inl h⟩
 ·exact ⟨h0,.inr ⟨a,c,e,λi y hi=>let ⟨cs,h1,h2,h3⟩:=h i y hi;⟨cs,h1,hR y cs (List.mem_of_getElem? hi) h2,h3⟩⟩⟩
theorem He.past {w:World} {v:Value} {l:AA} (h:He w v l):C6 w v l:=Bg.weak h λc cs _ ⟨pv,bv,e,h1,h2,h3⟩=>by
 obtain ⟨p,k,rfl⟩:=h3.slice;exact ⟨pv,_,e,h1,h2,p,_,k,rfl⟩
theorem Hf.at {w:World} {p:Option Addr} {c:Nat} {l:List (List (List UInt8))} (h:Hf w (.slice p l.length c) l) {i:Nat} {r:List (List UInt8)} (hi:l[i]?=some r):∃a q k,p=some a∧CD w (.slice q r.length k) r∧w.cell? (a.add (((i:Nat):Int).toNat*1))=some (.slice q r.length k):=by
 obtain ⟨a,cs,h1,h2,⟨u,rfl,h3⟩,h4⟩:=Bg.at h hi;obtain ⟨q,k,rfl⟩:=h3.slice;exact ⟨a,q,k,h1,h3,by have:=h4 0 _ rfl;rwa [JR] at this⟩
theorem Cq.at {w:World} {p:Option Addr} {c:Nat} {l:Ax} (h:Cq w (.slice p l.length c) l) {i:Nat} {s:Ak} (hi:l[i]?=some s):∃a q k,p=some a∧s.name.length≤9223372036854775807∧Hf w (.slice q s.rows.length k) s.rows∧∀j u,(A8 s (.slice q s.rows.length k))[j]?=some u→w.cell? ((a.add (((i:Nat):Int).toNat*3)).add j)=some u:=by
 obtain ⟨a,cs,h1,h2,⟨rv,rfl,h3,h4⟩,h5⟩:=Bg.at h hi;obtain ⟨q,k,rfl⟩:=h4.slice;exact ⟨a,q,k,h1,h3,h4,h5⟩
theorem He.at {w:World} {p:Option Addr} {k:Nat} {l:AA} (h:He w (.slice p l.length k) l) {i:Nat} {c:AF} (hi:l[i]?=some c):∃a q n bp bc,p=some a∧CD w (.slice q c.parents.length n) c.parents∧Cq w (.slice bp c.book.length bc) c.book∧c.id.length≤9223372036854775807∧∀j u,(B7 c (.slice q c.parents.length n) (.slice bp c.book.length bc))[j]?=some u→w.cell? ((a.add (((i:Nat):Int).toNat*4)).add j)=some u:=by
 obtain ⟨a,cs,h1,h2,⟨pv,bv,rfl,h3,h4,h5⟩,h6⟩:=Bg.at h hi;obtain ⟨q,n,rfl⟩:=h3.slice;obtain ⟨bp,bc,rfl⟩:=h5.slice;exact ⟨a,q,n,bp,bc,h1,h3,h5,h4,h6⟩
def Oq (b:Ax):Prop:=b.length≤1000000∧∀s∈b,s.name.length≤1000000∧s.rows.length≤1000000∧∀r∈s.rows,r.length≤1000000
theorem Cq.loose {w:World} {v:Value} {b:Ax} (h:Cq w v b) (hb:Oq b):C8 w v b:=
 Bg.strong h hb.1 λi s cs hi ⟨rv,e,_,hr⟩=>by
  obtain ⟨h1,h2,h3⟩:=hb.2 s (List.mem_of_getElem? hi);exact ⟨rv,e,h1,Bg.strong hr h2 λj r ds hj ⟨u,e2,ht⟩=>⟨u,e2,Bg.strong ht (h3 r (List.mem_of_getElem? hj)) λ_ _ _ _ ⟨e3,h4⟩=>⟨e3,h4⟩⟩⟩
def VH:FH AF:=λw cs c=>∃pv bv,cs=B7 c pv bv∧CD w pv c.parents∧c.id.length≤1000000∧Cp w bv c.book∧Bd c.book=true
abbrev CX:World→Value→AA→Prop:=Bg 4 VH
theorem CX.ext {w w':World} {v:Value} {l:AA} (h:CX w v l) (x:Ae w w'):CX w' v l:=Bg.ext h x λ_ _ ⟨pv,bv,e,h1,h2,h3,h4⟩=>⟨pv,bv,e,h1.ext x,h2,Al.ext h3 x,h4⟩
theorem CX.past {w:World} {v:Value} {l:AA} (h:CX w v l):C6 w v l:=Bg.weak h λc cs _ ⟨pv,bv,e,h1,h2,h3,_⟩=>by
 obtain ⟨p,k,rfl⟩:=h3.slice;exact ⟨pv,_,e,h1,by omega,p,_,k,rfl⟩
theorem CX.at {w:World} {p:Option Addr} {k:Nat} {l:AA} (h:CX w (.slice p l.length k) l) {i:Nat} {c:AF} (hi:l[i]?=some c):∃a q n bp bc,p=some a∧CD w (.slice q c.parents.length n) c.parents∧Cp w (.slice bp c.book.length bc) c.book∧c.id.length≤1000000∧Bd c.book=true∧∀j u,(B7 c (.slice q c.parents.length n) (.slice bp c.book.length bc))[j]?=some u→w.cell? ((a.add (((i:Nat):Int).toNat*4)).add j)=some u:=by
 obtain ⟨a,cs,h1,h2,⟨pv,bv,rfl,h3,h4,h5,h6⟩,h7⟩:=Bg.at h hi;obtain ⟨q,n,rfl⟩:=h3.slice;obtain ⟨bp,bc,rfl⟩:=h5.slice;exact ⟨a,q,n,bp,bc,h1,h3,h5,h4,h6,h7⟩
theorem He.fine {w:World} {v:Value} {l:AA} (h:He w v l) (hl:∀c∈l,Oq c.book∧Bd c.book=true∧c.id.length≤1000000):CX w v l:=Bg.weak h λc cs hc ⟨pv,bv,e,h1,h2,h3⟩=>by
 obtain ⟨g1,g2,g3⟩:=hl c hc;exact ⟨pv,bv,e,h1,g3,(h3.loose g1).strict g2,g2⟩
theorem CX.may {w:World} {v:Value} {l:AA} (h:CX w v l):∀c∈l,Bd c.book=true∧c.id.length≤1000000:=λc hc=>by
 obtain ⟨i,hi⟩:=List.getElem?_of_mem hc;obtain ⟨p,k,rfl⟩:=Bg.slice h;obtain ⟨a,q,n,bp,bc,-,-,-,h1,h2,-⟩:=CX.at h hi;exact ⟨h2,h1⟩
open Go Go.E Go.ChangeShapes Go.WideShapes Go.ChangeAt Go.RowKit Go.Joins Go.ChangeMaps
section
variable {H:Type} {enc:TypeId×Value→H} {W:World} {base:Nat} {sp:Nat→Bool} {held:Bool}
theorem Ly {α:Type} [Inhabited α] {R:FH α} {t e n m:Nat} {c:Value} {x:DataW H×List MemPlace} (ht:Tryz.prog.underlying t=some (.slice e)) (hc:Tryz.prog.cellsOf e=m) (h:DataW.trod enc Tryz.prog W base sp held n t [c]=some x)
  (hR:∀(k:Nat) (cs:List Value) (y:DataW H×List MemPlace),cs.length=m→DataW.trod enc Tryz.prog W base sp held k e cs=some y→∃a,R W cs a):∃l,Bg m R W c l∧∀p n k,c=.slice p n k→n≤k:=by
 have a5:maxLen≤9223372036854775807:=by decide
 rcases Go.Deep.open_slice ht h with ⟨e1,_⟩ | ⟨a',len',cap',q,n,D,Pl,e1,_,hl,hm,a2,_,hx⟩
 ·have e2:c=.slice none 0 0:=by simpa using e1
  rw [e2];exact ⟨[],⟨by simp,.inl ⟨rfl,rfl⟩⟩,λp n k e=>by obtain ⟨-,rfl,rfl⟩:=Value.slice.inj e;exact Nat.le_refl _⟩
 ·have e2:c=.slice (some a') len' cap':=by simpa using e1
  rw [e2];have a3:len'≤q:=by rw [a2];split<;>omega
  have key:∀i,i<len'→∃z:α,∃cs:List Value,cs.length=m∧R W cs z∧∀j u,cs[j]?=some u→W.cell? ((a'.add (i*m)).add j)=some u:=λi hi=>by
   obtain ⟨cs',h1,h2⟩:=hx i (by omega);rw [hc] at h1;obtain ⟨_,a0,a4⟩:=World.cells?_some h1;obtain ⟨z,hz⟩:=hR _ _ _ a0 h2;refine ⟨z,cs',a0,hz,λj u hj=>?_⟩;have:=(List.getElem?_eq_some_iff.1 hj).1;rw [a4 j (by omega)];exact hj
  obtain ⟨N,hN⟩:=Go.Deep.choose_lt key;refine ⟨(List.range len').map N,⟨by simp;omega,.inr ⟨a',cap',by simp,λi z hi=>?_⟩⟩,λp n k e=>by obtain ⟨-,rfl,rfl⟩:=Value.slice.inj e;exact hl⟩;have a1:i<len':=by
   have:=(List.getElem?_eq_some_iff.1 hi).1
   simpa using this
  have:N i=z:=by simpa [a1] using hi
  subst this;exact hN i a1
instance : Inhabited Ak := ⟨⟨[], 0, []⟩⟩
instance : Inhabited AF := ⟨⟨[], [], [], []⟩⟩
theorem Oe {n:Nat} {c:Value} {x:DataW H×List MemPlace} (h:DataW.trod enc Tryz.prog W base sp held n 26 [c]=some x):∃l,CD W c l:=by
 obtain ⟨l,h1,-⟩:=Ly (R:=W7) (m:=1) Tryz.underlying26 (by kernel_rfl) h λm cs y hl hy=>by
  obtain ⟨s,e0,_,hs⟩:=DataW.trod_string Tryz.underlying9 hy;exact ⟨s.data.toList,e0,LO hs⟩
 exact ⟨l,h1⟩
theorem Vo {n:Nat} {c:Value} {x:DataW H×List MemPlace} (h:DataW.trod enc Tryz.prog W base sp held n 39 [c]=some x):∃l,Hf W c l:=by
 obtain ⟨l,h1,-⟩:=Ly (R:=Vn) (m:=1) Tryz.underlying39 (by kernel_rfl) h λm cs y hl hy=>by
  match cs,hl with
  | [u],_=>
   obtain ⟨l,hl⟩:=Oe hy;exact ⟨l,u,rfl,hl⟩
 exact ⟨l,h1⟩
set_option maxRecDepth 100000 in
theorem QB {n:Nat} {cs:List Value} {x:DataW H×List MemPlace} (h:DataW.trod enc Tryz.prog W base sp held n 41 cs=some x):∃s,Kt W cs s:=by
 have hu:=Tryz.underlying41;have hC:Tryz.prog.cellsOf 41=3:=by kernel_rfl
 obtain ⟨xs,n',_,hx,hl,a0,hg⟩:=DataW.trod_struct hu h
 match cs,hl.trans hC with
 | [c0,c1,c2],_=>
  have g0:=hg 0 _ rfl;have g1:=hg 1 _ rfl;have g2:=hg 2 _ rfl
  match xs,a0 with
  | [y0,y1,y2],_=>
   have k1:Tryz.prog.cellsOf 9=1:=by kernel_rfl
   have k2:Tryz.prog.cellsOf 3=1:=by kernel_rfl
   have k3:Tryz.prog.cellsOf 39=1:=by kernel_rfl
   obtain ⟨s,e0,_,hs⟩:=DataW.trod_string Tryz.underlying9 g0;obtain ⟨z,e1,_,_⟩:=DataW.trod_int Tryz.underlying3 g1;simp [k1,k2] at e0 e1;have g2':DataW.trod enc Tryz.prog W base sp held n' 39 [c2]=some y2:=by simpa [k3] using g2
   obtain ⟨rows,hr⟩:=Vo g2';exact ⟨⟨s.data.toList,z,rows⟩,c2,by rw [e0,e1];rfl,LO hs,hr⟩
theorem RE {n:Nat} {c:Value} {x:DataW H×List MemPlace} (h:DataW.trod enc Tryz.prog W base sp held n 27 [c]=some x):∃l,Cq W c l:=by
 obtain ⟨l,h1,-⟩:=Ly (R:=Kt) (m:=3) Tryz.underlying27 (by kernel_rfl) h λm cs y hl hy=>QB hy;exact ⟨l,h1⟩
set_option maxRecDepth 100000 in
theorem Rb {n:Nat} {c:Value} {x:DataW H×List MemPlace} (h:DataW.trod enc Tryz.prog W base sp held n 29 [c]=some x):∃b,Cq W c b:=by
 have hu:=Tryz.underlying29;obtain ⟨xs,n',_,hx,hl,a0,hg⟩:=DataW.trod_struct hu h;have g0:=hg 0 _ rfl
 match xs,a0 with
 | [y0],_=>
  have k3:Tryz.prog.cellsOf 27=1:=by kernel_rfl
  have g0':DataW.trod enc Tryz.prog W base sp held n' 27 [c]=some y0:=by simpa [k3] using g0
  exact RE g0'
set_option maxRecDepth 100000 in
theorem O2 {n:Nat} {cs:List Value} {x:DataW H×List MemPlace} (h:DataW.trod enc Tryz.prog W base sp held n 31 cs=some x):∃c,HV W cs c:=by
 have hu:=Tryz.underlying31;have hC:Tryz.prog.cellsOf 31=4:=by kernel_rfl
 obtain ⟨xs,n',_,hx,hl,a0,hg⟩:=DataW.trod_struct hu h
 match cs,hl.trans hC with
 | [c0,c1,c2,c3],_=>
  have g0:=hg 0 _ rfl;have g1:=hg 1 _ rfl;have g2:=hg 2 _ rfl;have g3:=hg 3 _ rfl
  match xs,a0 with
  | [y0,y1,y2,y3],_=>
   have k1:Tryz.prog.cellsOf 9=1:=by kernel_rfl
   have k2:Tryz.prog.cellsOf 26=1:=by kernel_rfl
   have k3:Tryz.prog.cellsOf 29=1:=by kernel_rfl
   obtain ⟨s,e0,_,hs⟩:=DataW.trod_string Tryz.underlying9 g0;obtain ⟨s3,e3,_,a1⟩:=DataW.trod_string Tryz.underlying9 g3;simp [k1] at e0 e3;have g1':DataW.trod enc Tryz.prog W base sp held n' 26 [c1]=some y1:=by simpa [k1,k2] using g1
   have g2':DataW.trod enc Tryz.prog W base sp held n' 29 [c2]=some y2:=by simpa [k1,k2,k3] using g2
   obtain ⟨ps,hp⟩:=Oe g1';obtain ⟨b,hb⟩:=Rb g2';exact ⟨⟨s.data.toList,ps,b,s3.data.toList⟩,c1,c2,by rw [e0,e3];rfl,hp,LO hs,hb⟩
set_option maxRecDepth 100000 in
theorem WY {b0:Nat} {v:Value} {d:DataW H} {p:List MemPlace} (hv:Value.okWide Tryz.prog W .any b0 22 v) (h:DataW.Trod enc Tryz.prog W base sp held 22 v d p):∃l,He W v l∧∀p n k,v=.slice p n k→n≤k:=by
 obtain ⟨a,len,cap,rfl⟩:=okWide_slice Tryz.underlying22 hv;obtain ⟨fuel,hf⟩:=h;have a0:DataW.trod enc Tryz.prog W base sp held fuel 22 [.slice a len cap]=some (d,p):=by simpa [Value.cells] using hf
 exact Ly (R:=HV) (m:=4) Tryz.underlying22 (by kernel_rfl) a0 λm cs y hl hy=>O2 hy
end
def DD (n:Nat):List UInt8:=if h:n<128 then [UInt8.ofNat n] else UInt8.ofNat (n % 128+128)::DD (n / 128)
 termination_by n
 decreasing_by omega
def FG (s:List UInt8):List UInt8:=DD s.length++s
def G1 (l:List (List UInt8)):List UInt8:=DD l.length++l.flatMap FG
theorem IM {n:Nat} (h:n<128):DD n=[UInt8.ofNat n]:=by rw [DD,dif_pos h]
theorem MD {n:Nat} (h:128≤n):DD n=UInt8.ofNat (n % 128+128)::DD (n / 128):=by rw [DD,dif_neg (by omega)]
theorem JL {n:Nat} (h:n<256):(UInt8.ofNat n).toNat=n:=by simp;omega
section
variable {α:Type} [DecidableEq α]
def Ck:List α→List α→Nat
 | [],_=>0
 | _::_,[]=>0
 | x::a,y::b=>if x=y then Ck a b+1 else max (Ck a (y::b)) (Ck (x::a) b)
 termination_by a b=>a.length+b.length
def AE:List α→List α→Nat→Nat→List (Nat×Nat)
 | [],_,_,_=>[]
 | _::_,[],_,_=>[]
 | x::a,y::b,i,k=>if x=y then (i,k)::AE a b (i+1) (k+1) else if Ck (x::a) b≤Ck a (y::b) then AE a (y::b) (i+1) k else AE (x::a) b i (k+1)
 termination_by a b _ _=>a.length+b.length
theorem Gz:∀(a b:List α) (i k:Nat),∀p∈AE a b i k,i≤p.1∧p.1<i+a.length∧k≤p.2∧p.2<k+b.length
 | [],_,_,_,p,h=>by simp [AE] at h
 | _::_,[],_,_,p,h=>by simp [AE] at h
 | x::a,y::b,i,k,p,h=>by
  rw [AE] at h;simp only [List.length_cons]
  split at h
  ·rcases List.mem_cons.1 h with rfl | h
   ·simp
   ·have:=Gz a b (i+1) (k+1) p h;omega
  split at h
  ·have:=Gz a (y::b) (i+1) k p h;simp only [List.length_cons] at this;omega
  ·have:=Gz (x::a) b i (k+1) p h;simp only [List.length_cons] at this;omega
 termination_by a b _ _=>a.length+b.length
end
def Bm (n:Nat) (ps:List (Nat×Nat)):List Int:=ps.foldl (λl p=>l.set p.1 (p.2:Int)) (List.replicate n (-1))
def Cg (new:Int):List Int→Int
 | []=>new
 | k::r=>if 0≤k then k else Cg new r
def Ee (new:Int):Int→List Int→List Int
 | _,[]=>[]
 | free,k::r=>if 0≤k then k::Ee new (k+1) r else if free<Cg new r then free::Ee new (free+1) r else -1::Ee new free r
theorem B4 (n:Nat) (ps:List (Nat×Nat)):(Bm n ps).length=n:=by
 unfold Bm;have:∀(ps:List (Nat×Nat)) (l:List Int),(ps.foldl (λl p=>l.set p.1 (p.2:Int)) l).length=l.length:=λps=>by
  induction ps with
  | nil=>simp
  | cons p r ih=>intro l;rw [List.foldl_cons,ih,List.length_set]
 rw [this];simp
theorem HY (new:Int):∀(free:Int) (l:List Int),(Ee new free l).length=l.length
 | _,[]=>rfl
 | free,k::r=>by
  rw [Ee]
  split
  ·simp [HY new (k+1) r]
  split
  ·simp [HY new (free+1) r]
  ·simp [HY new free r]
def Du {α:Type} [DecidableEq α] (a b:List α):List Int:=Ee b.length 0 (Bm a.length (AE a b 0 0))
theorem HA {α:Type} [DecidableEq α] (a b:List α):(Du a b).length=a.length:=by rw [Du,HY,B4]
def Cf (r:List (List UInt8)):List UInt8:=G1 (r.filter λs=>decide (s≠[]))
def Bz (a b:Ak):List Int:=Du (a.rows.map Cf) (b.rows.map Cf)
def AN (a b:Ak) (m:List Int):List (Nat×Nat):=(List.range a.rows.length).filterMap λi=>match (m[i]?:Option Int) with
 | none=>none
 | some (k:Int)=>if 0≤k∧k<b.rows.length∧Cf (a.rows.getD i [])=Cf (b.rows.getD k.toNat []) then some (i,k.toNat) else none
def Fy (s:Ak) (rs:List Nat) (c:Nat):List UInt8:=G1 (rs.map λr=>(s.rows.getD r []).getD c [])
def A1 (s:Ak) (rs:List Nat):List (List UInt8):=(List.range s.cols.toNat).map (Fy s rs)
def Ey (a b:Ak) (m:List Int):List Int:=Du (A1 a ((AN a b m).map Prod.fst)) (A1 b ((AN a b m).map Prod.snd))
section
variable {α:Type} [DecidableEq α]
def Jv:List α→List α→Nat→List Int
 | [],_,_=>[]
 | _::a,[],k=>-1::Jv a [] k
 | x::a,y::b,k=>if x=y then (k:Int)::Jv a b (k+1) else if Ck (x::a) b≤Ck a (y::b) then -1::Jv a (y::b) k else Jv (x::a) b (k+1)
 termination_by a b _=>a.length+b.length
theorem Kg:∀(a:List α) (k:Nat),Jv a [] k=List.replicate a.length (-1)
 | [],_=>by simp [Jv]
 | x::a,k=>by rw [Jv,Kg a k,List.length_cons,List.replicate_succ]
theorem Jo:∀(a b:List α) (i k:Nat) (pre:List Int),pre.length=i→(AE a b i k).foldl (λl p=>l.set p.1 (p.2:Int)) (pre++List.replicate a.length (-1))=pre++Jv a b k
 | [],_,_,_,pre,_=>by simp [AE,Jv]
 | x::a,[],i,k,pre,_=>by
  rw [Kg]
  simp [AE]
 | x::a,y::b,i,k,pre,h=>by
  rw [AE,Jv]
  split
  ·rw [List.foldl_cons];simp only [List.length_cons,List.replicate_succ];rw [List.set_append_right _ _ (by omega),h,Nat.sub_self,List.set_cons_zero];have:=Jo a b (i+1) (k+1) (pre++[(k:Int)]) (by simp [h]);rw [List.append_assoc,List.singleton_append] at this;rw [this,List.append_assoc,List.singleton_append]
  split
  ·have:=Jo a (y::b) (i+1) k (pre++[-1]) (by simp [h]);rw [List.append_assoc,List.singleton_append] at this;simp only [List.length_cons,List.replicate_succ];rw [this,List.append_assoc,List.singleton_append]
  ·exact Jo (x::a) b i (k+1) pre h
 termination_by a b _ _ _=>a.length+b.length
theorem Rw (a b:List α):Bm a.length (AE a b 0 0)=Jv a b 0:=by
 have:=Jo a b 0 0 [] rfl
 simpa [Bm] using this
theorem KI {new:Int}:∀{l:List Int} {last last':Int},CO new last l=true→last'≤last→CO new last' l=true
 | [],_,_,_,_=>rfl
 | z::r,last,last',h,hl=>by
  rw [CO] at h ⊢
  split at h
  ·rename_i e;rw [if_pos e];exact KI h hl
  ·rename_i e;rw [if_neg e]
   split at h
   ·cases h
   ·rw [if_neg (by omega)];exact h
theorem MM (new last:Int):∀n:Nat,CO new last (List.replicate n (-1))=true
 | 0=>rfl
 | n+1=>by rw [List.replicate_succ,CO,if_pos rfl,MM new last n]
theorem Ic:∀(a b:List α) (k:Nat),CO ((k+b.length:Nat):Int) ((k:Int) - 1) (Jv a b k)=true
 | [],_,_=>by simp [Jv,CO]
 | x::a,[],k=>by rw [Kg];exact MM _ _ _
 | x::a,y::b,k=>by
  rw [Jv]
  split
  ·rw [CO,if_neg (by omega),if_neg (by simp only [List.length_cons];omega)];have:=Ic a b (k+1);rw [show k+(y::b).length=k+1+b.length by simp only [List.length_cons];omega];rw [show (((k+1:Nat):Int) - 1)=(k:Int) by omega] at this;exact this
  split
  ·rw [CO,if_pos rfl];exact Ic a (y::b) k
  ·have:=Ic (x::a) b (k+1);rw [show k+(y::b).length=k+1+b.length by simp only [List.length_cons];omega];exact KI this (by omega)
 termination_by a b _=>a.length+b.length
theorem M2 {new:Int}:∀{l:List Int} {last:Int},CO new last l=true→Cg new l≤new
 | [],_,_=>Int.le_refl _
 | z::r,last,h=>by
  rw [CO] at h;rw [Cg]
  split at h
  ·rename_i e;rw [if_neg (by omega)];exact M2 h
  ·split at h
   ·cases h
   ·rename_i e1 e2
    split
    ·omega
    ·exact M2 h
theorem KJ {new f:Int}:∀{l:List Int} {last:Int},-1≤last→CO new last l=true→last≤f→f<Cg new l→CO new f l=true
 | [],_,_,_,_,_=>rfl
 | z::r,last,h0,h,hl,hf=>by
  rw [CO] at h ⊢;rw [Cg] at hf
  split at h
  ·rename_i e;rw [if_neg (by omega)] at hf;rw [if_pos e];exact KJ h0 h hl hf
  ·rename_i e;rw [if_neg e]
   split at h
   ·cases h
   ·rw [if_pos (by omega)] at hf;rw [if_neg (by omega)];exact h
theorem HZ {new:Int}:∀{l:List Int} {free:Int},0≤free→CO new (free - 1) l=true→CO new (free - 1) (Ee new free l)=true
 | [],_,_,_=>rfl
 | k::r,free,h0,h=>by
  rw [CO] at h;rw [Ee];by_cases e:k=-1
  ·rw [if_pos e] at h;rw [if_neg (by omega)];by_cases hn:free<Cg new r
   ·rw [if_pos hn,CO,if_neg (by omega),if_neg (by have:=M2 h;omega)];have h2:=KJ (f:=free) (by omega) h (by omega) hn;have:=HZ (free:=free+1) (l:=r) (by omega) (by rw [show free+1 - 1=free by omega];exact h2)
    rwa [show free+1 - 1=free by omega] at this
   ·rw [if_neg hn,CO,if_pos rfl];exact HZ h0 h
  ·rw [if_neg e] at h
   split at h
   ·cases h
   ·rename_i hc;rw [if_pos (by omega),CO,if_neg e,if_neg hc];have:=HZ (free:=k+1) (l:=r) (by omega) (by rw [show k+1 - 1=k by omega];exact h)
    rwa [show k+1 - 1=k by omega] at this
theorem IK (a b:List α) (ha:a.length≤1048576) (hb:b.length≤1048576):Mv ⟨Du a b,b.length⟩=true:=by
 have h1:CO (b.length:Int) (-1) (Du a b)=true:=by
  rw [Du,Rw];have:=Ic a b 0;simp only [Nat.zero_add] at this;exact HZ (free:=0) (Int.le_refl _) this
 simp [Mv,h1,HA];omega
end
def A5 (a b:Ak):CA:={sheet:=a.name,rows:=⟨Bz a b,b.rows.length⟩,cols:=⟨Ey a b (Bz a b),((b.cols.toNat:Nat):Int)⟩,gone:=false}
theorem RH {a b:Ak} (ha:BV a=true) (hb:BV b=true):(A5 a b).May:=by
 have key:∀s:Ak,BV s=true→s.rows.length≤24∧s.cols≤12:=λs h=>by
  simp only [BV,Bool.and_eq_true,decide_eq_true_eq] at h;omega
 obtain ⟨a1,a2⟩:=key a ha;obtain ⟨b1,b2⟩:=key b hb;refine ⟨?_,?_⟩
 ·have:=IK (a.rows.map Cf) (b.rows.map Cf) (by simp;omega) (by simp;omega)
  simpa [A5,Bz] using this
 ·have:=IK (A1 a ((AN a b (Bz a b)).map Prod.fst)) (A1 b ((AN a b (Bz a b)).map Prod.snd)) (by simp [A1];omega) (by simp [A1];omega)
  simpa [A5,Ey,A1] using this
abbrev AD:=List (List (List (List UInt8)))
def A4 (p c:Ax):List CA:=p.map λs=>match Nw c s.name with
 | none=>⟨s.name,⟨[],0⟩,⟨[],0⟩,true⟩
 | some k=>match c[k]? with
  | none=>⟨s.name,⟨[],0⟩,⟨[],0⟩,true⟩
  | some u=>A5 s u
def GD (b:Ax) (id:List UInt8):AD:=b.map λs=>s.rows.map λr=>r.map λ_=>id
def Nk (t:AD) (k x y:Nat) (v:List UInt8):AD:=t.modify k λrows=>rows.modify x λr=>r.set y v
def UH (t:AD) (k x y:Nat):List UInt8:=((t.getD k []).getD x []).getD y []
noncomputable def Jr (c:Ax) (ss:List CA) (had:AD) (i k:Nat) (nm:List UInt8) (sh:CA) (r q:Nat) (text:List UInt8) (t:AD):AD:=
 let x:=AK sh.rows r
 let y:=AK sh.cols q
 if 0≤x∧0≤y∧Jk (c.getD k ⟨[],0,[]⟩) x y=Dy nm ss text then Nk t k x.toNat y.toNat (UH had i r q) else t
noncomputable def E9 (c:Ax) (ss:List CA) (had:AD) (i k:Nat) (nm:List UInt8) (sh:CA) (r:Nat) (row:List (List UInt8)) (n:Nat) (t:AD):AD:=
 (List.range n).foldl (λt q=>Jr c ss had i k nm sh r q (row.getD q []) t) t
noncomputable def FO (c:Ax) (ss:List CA) (had:AD) (i k:Nat) (s:Ak) (sh:CA) (n:Nat) (t:AD):AD:=
 (List.range n).foldl (λt r=>E9 c ss had i k s.name sh r (s.rows.getD r []) (s.rows.getD r []).length t) t
noncomputable def DM (p c:Ax) (had:AD) (n:Nat) (t:AD):AD:=
 (List.range n).foldl (λt i=>let s:=p.getD i ⟨[],0,[]⟩;match Nw c s.name with
  | none=>t
  | some k=>FO c (A4 p c) had i k s ((A4 p c).getD i ⟨[],⟨[],0⟩,⟨[],0⟩,true⟩) s.rows.length t) t
noncomputable def HL (p c:Ax) (id:List UInt8) (had:AD):AD:=DM p c had p.length (GD c id)
noncomputable def Ei:List (List UInt8×Ax)→AD
 | []=>[]
 | (id,b)::r=>(r.foldl (λ(st:Ax×AD) x=>(x.2,HL st.1 x.2 x.1 st.2)) (b,GD b id)).2
def D2 (t:AD) (b:Ax):Prop:=t.map (λrows=>rows.map List.length)=b.map λs=>s.rows.map List.length
theorem HR (b:Ax) (id:List UInt8):D2 (GD b id) b:=by
 simp only [D2,GD,List.map_map];apply List.map_congr_left;intro s _;simp only [Function.comp,List.map_map];apply List.map_congr_left;intro r _;simp
theorem R5 (t:AD) (k x y:Nat) (v:List UInt8):(Nk t k x y v).map (λrows=>rows.map List.length)=t.map λrows=>rows.map List.length:=by
 apply List.ext_getElem?;intro i;simp only [Nk,List.getElem?_map,List.getElem?_modify]
 cases h:t[i]? with
 | none=>rfl
 | some rows=>
  by_cases e:k=i
  ·simp only [e,if_true];show some ((rows.modify x λr=>r.set y v).map List.length)=some (rows.map List.length)
   congr 1
   apply List.ext_getElem?;intro j;simp only [List.getElem?_map,List.getElem?_modify]
   cases rows[j]? with
   | none=>rfl
   | some r=>by_cases e:x=j<;>simp [e]
  ·simp [e]
theorem DB {β:Type} {P:AD→Prop} {f:AD→β→AD} (hf:∀t x,P t→P (f t x)):∀(l:List β) (t:AD),P t→P (l.foldl f t)
 | [],_,h=>h
 | x::r,t,h=>DB hf r _ (hf t x h)
theorem Mk {c:Ax} {ss:List CA} {had:AD} {i k:Nat} {nm:List UInt8} {sh:CA} {r q:Nat} {text:List UInt8} {t:AD} {b:Ax} (h:D2 t b):D2 (Jr c ss had i k nm sh r q text t) b:=by
 unfold Jr;simp only
 split
 ·unfold D2 at h ⊢;rw [R5];exact h
 ·exact h
theorem RL (p c:Ax) (id:List UInt8) (had:AD):D2 (HL p c id had) c:=by
 unfold HL DM;refine DB (P:=λt=>D2 t c) (λt i h=>?_) _ _ (HR c id);simp only
 split
 ·exact h
 ·exact DB (P:=λt=>D2 t c) (λt r h=>DB (P:=λt=>D2 t c) (λt q h=>Mk h) _ _ h) _ _ h
def Dw (new:Int):List Int→List Int
 | []=>[]
 | k::r=>(if 0≤k then k else -1 - Cg new r)::Dw new r
theorem Kb (new:Int):∀l:List Int,(Dw new l).length=l.length
 | []=>rfl
 | _::r=>by simp [Dw,Kb new r]
theorem H7 {new M:Int} (h0:0≤new) (h1:new≤M):∀{l:List Int},(∀z∈l,z≤M)→0≤Cg new l∧Cg new l≤M
 | [],_=>⟨h0,h1⟩
 | k::r,h=>by
  unfold Cg
  split
  ·exact ⟨by assumption,h k (by simp)⟩
  ·exact H7 h0 h1 λz hz=>h z (by simp [hz])
theorem F0 {l:List Int} {j:Nat} {z:Int} (h:l[j]?=some z):l.drop j=z::l.drop (j+1):=by
 obtain ⟨hj,rfl⟩:=List.getElem?_eq_some_iff.1 h;exact List.drop_eq_getElem_cons hj
def Gl (new:Int) (l:List Int) (i:Nat):List Int:=l.take i++Dw new (l.drop i)
theorem ST (new:Int) (l:List Int):Gl new l l.length=l:=by simp [Gl,Dw]
theorem QZ (new:Int) (l:List Int):Gl new l 0=Dw new l:=by simp [Gl]
theorem Vy {l:List Int} {j:Nat} {z:Int} (h:l[j]?=some z):l.take (j+1)=l.take j++[z]:=by rw [List.take_add_one,h];rfl
theorem QX {new:Int} {l:List Int} {i:Nat} {z:Int} (h:l[i]?=some z) (hz:0≤z):Gl new l i=Gl new l (i+1)∧Cg new (l.drop i)=z:=by
 rw [Gl,Gl,F0 h,Vy h,Dw,if_pos hz,List.append_assoc];exact ⟨rfl,by rw [Cg,if_pos hz]⟩
theorem QY {new:Int} {l:List Int} {i:Nat} {z:Int} (h:l[i]?=some z) (hz:¬0≤z):(Gl new l (i+1)).set i (-1 - Cg new (l.drop (i+1)))=Gl new l i∧Cg new (l.drop i)=Cg new (l.drop (i+1)):=by
 have hi:=(List.getElem?_eq_some_iff.1 h).1;rw [Gl,Gl,F0 h,Vy h,Dw,if_neg hz,List.append_assoc,List.set_append_right _ _ (by rw [List.length_take];omega),List.length_take,Nat.min_eq_left (by omega),Nat.sub_self];exact ⟨rfl,by rw [Cg,if_neg hz]⟩
structure Hq (new:Int) (l:List Int) (j:Nat) (done:List Int) (free:Int):Prop where
 len:done.length=j
 done:done++Ee new free (l.drop j)=Ee new 0 l
 free0:0≤free
theorem Hq.start (new:Int) (l:List Int):Hq new l 0 [] 0:=⟨rfl,by simp,by omega⟩
theorem Hq.kept {new:Int} {l:List Int} {j:Nat} {done:List Int} {free z:Int} (h:Hq new l j done free) (hz:l[j]?=some z) (h0:0≤z):Hq new l (j+1) (done++[z]) (z+1):=
 ⟨by simp [h.len],by rw [←h.done,F0 hz,Ee,if_pos h0];simp,by omega⟩
theorem Hq.fill {new:Int} {l:List Int} {j:Nat} {done:List Int} {free z:Int} (h:Hq new l j done free) (hz:l[j]?=some z) (h0:¬0≤z) (hf:free<Cg new (l.drop (j+1))):Hq new l (j+1) (done++[free]) (free+1):=
 ⟨by simp [h.len],by rw [←h.done,F0 hz,Ee,if_neg h0,if_pos hf];simp,by have:=h.free0;omega⟩
theorem Hq.gone {new:Int} {l:List Int} {j:Nat} {done:List Int} {free z:Int} (h:Hq new l j done free) (hz:l[j]?=some z) (h0:¬0≤z) (hf:¬free<Cg new (l.drop (j+1))):Hq new l (j+1) (done++[-1]) free:=
 ⟨by simp [h.len],by rw [←h.done,F0 hz,Ee,if_neg h0,if_neg hf];simp,h.free0⟩
theorem Hq.all {new:Int} {l:List Int} {done:List Int} {free:Int} (h:Hq new l l.length done free):done=Ee new 0 l:=by
 rw [←h.done];simp [Ee]
theorem Tk {new:Int} {l:List Int} {j:Nat} {z x:Int} {done:List Int} (hl:done.length=j) (hz:l[j]?=some z):(done++Dw new (l.drop j)).set j x=(done++[x])++Dw new (l.drop (j+1)):=by
 rw [F0 hz,Dw,List.set_append_right _ _ (by omega),hl,Nat.sub_self];simp
theorem VO {new:Int} {l:List Int} {j:Nat} {z:Int} {done:List Int} (hl:done.length=j) (hz:l[j]?=some z):(done++Dw new (l.drop j))[j]?=some (if 0≤z then z else -1 - Cg new (l.drop (j+1))):=by
 rw [F0 hz,Dw,List.getElem?_append_right (by omega),hl,Nat.sub_self];rfl
theorem UG {new:Int} {l:List Int} {j:Nat} {z:Int} {done:List Int} (hz:l[j]?=some z) (h0:0≤z):done++Dw new (l.drop j)=(done++[z])++Dw new (l.drop (j+1)):=by
 rw [F0 hz,Dw,if_pos h0];simp
abbrev BX (lo:Nat) (w:World) (v:Value) (l:List UInt8):Prop:=Ay w lo 5 1 v l.length (AC l)
theorem K2 (l:List UInt8):(AC l).length=l.length:=by simp [AC]
theorem Fw (l m:List UInt8):AC (l++m)=AC l++AC m:=by simp [AC]
theorem LJ (l:List UInt8):∀u∈AC l,u.oneCell'=true:=λu hu=>by
 simp only [AC,List.mem_map] at hu;obtain ⟨b,_,rfl⟩:=hu;rfl
theorem WQ:∀k,k<256→bits .or .u8 ((k:Nat):Int) 128=((k % 128+128:Nat):Int):=by decide +kernel
theorem Xr (m:Nat):bits .or .u8 ((UInt8.ofNat m).toNat:Int) 128=((UInt8.ofNat (m % 128+128)).toNat:Int):=by
 have e:(UInt8.ofNat m).toNat=m % 256:=by simp
 rw [e,WQ _ (Nat.mod_lt _ (by decide)),JL (by omega)]
 congr 1
 omega
theorem Ql:∀(k n:Nat),0<k→n<128 ^ k→(DD n).length≤k
 | 0,_,h,_=>by omega
 | k+1,n,_,h=>by
  by_cases h1:n<128
  ·rw [IM h1];simp
  ·have hk:0<k:=by
    rcases Nat.eq_zero_or_pos k with e | e
    ·subst e;simp at h;omega
    ·exact e
   rw [MD (by omega),List.length_cons];have:=Ql k (n / 128) hk (by rw [Nat.pow_succ] at h;omega);omega
theorem Dm {n:Nat} (h:n≤9223372036854775807):(DD n).length≤10:=Ql 10 n (by decide) (Nat.lt_of_le_of_lt h (by decide))
theorem MG {s:List UInt8} (h:s.length≤1000000):(FG s).length≤1000010:=by
 have:=Dm (n:=s.length) (by omega);rw [FG,List.length_append];omega
theorem KN:∀{l:List (List UInt8)},(∀s∈l,s.length≤1000000)→(l.flatMap FG).length≤l.length*1000010
 | [],_=>by simp
 | s::l,h=>by
  have:=KN (l:=l) λu hu=>h u (List.mem_cons_of_mem _ hu);have:=MG (h s (List.mem_cons_self ..));rw [List.flatMap_cons,List.length_append,List.length_cons,Nat.add_mul];omega
set_option maxRecDepth 8000 in
theorem RP (n:Nat) (hn:n≤9223372036854775807) (w:World):AB Tryz.prog 177 [.int .i64 (n:Int)] w (λv w'=>BX w.heap.size w' v (DD n)∧Ae w w'):=by
 refine AJ Tryz.func177 Tryz.ntmps177 ?_;refine Su ?_;refine CW.loop (ι:=Nat×List UInt8×Value) (λx w'=>x.2.1++DD x.1=DD n∧x.1≤n∧Ae w w'∧Ay w' w.heap.size 5 1 x.2.2 x.2.1.length (AC x.2.1)) (λx=>[(0,.int .i64 x.1),(3,x.2.2)]) (λx=>x.1) (n,[],.slice none 0 0) ⟨rfl,Nat.le_refl _,Chg.refl _ _,Ay.nil _ _ _ _⟩ D5 ?_;rintro ⟨m,out,ov⟩ w1 ⟨a2,a5,a3,hO⟩;dsimp only at a2 a5 hO;show CW _ _ _ _ _ [(0,.int .i64 (m:Int)),(3,ov)] _;have a8:out.length≤10:=by
  have:=congrArg List.length a2;rw [List.length_append] at this;have:=Dm hn;omega
 refine Su ?_;refine Am (λh1=>?_) λh1=>?_
 ·have h1:128≤m:=by simp at h1;omega
  refine Su ?_;refine LW.val rfl rfl rfl (Y.low (m:=m) rfl rfl rfl rfl rfl) ?_;refine LW.bits (z:=((UInt8.ofNat (m % 128+128)).toNat:Int)) rfl rfl rfl (Xr m) rfl ?_;refine C0 λB w2 a6 a0 hB=>?_;refine LW.append (lo:=w.heap.size) (k:=out.length) rfl rfl rfl rfl rfl rfl (hO.ext a0) (by have:=a3.size;have:=a0.size;omega) hB rfl rfl rfl (by show (out.length+1)*2≤_;omega) rfl ?_;intro v3 w3 a4 a1 a7;replace a1:Ay w3 w.heap.size 5 1 v3 (out.length+1) (AC out++AC [UInt8.ofNat (m % 128+128)]):=a1;rw [←Fw] at a1;refine Su ?_;refine LW.shr (m:=7) (z:=((m / 128:Nat):Int)) rfl rfl (by decide) (by rw [show (2:Int) ^ 7=128 by decide];omega) rfl ?_;refine Su ?_;exact QW.again (m / 128,out++[UInt8.ofNat (m % 128+128)],v3) ⟨by
   rw [←a2,MD (n:=m) h1];simp,by show m / 128≤n;omega,(a3.trans a0).step a4 (λb hb=>by have:=(hO.lt hb).1;omega),by
   show Ay _ _ _ _ v3 (out++[UInt8.ofNat (m % 128+128)]).length _;rw [List.length_append];exact a1⟩ D5 (by show m / 128<m;omega)
 have h1:m<128:=by simp at h1;omega
 refine Su ?_;refine C0 λB w2 a6 a0 hB=>?_;replace hB:Blk w2 B (AC [UInt8.ofNat m]) 5:=by
  have e:(m:Int)=((UInt8.ofNat m).toNat:Int):=by rw [JL (by omega)]
  rw [e] at hB;exact hB
 refine LW.append (lo:=w.heap.size) (k:=out.length) rfl rfl rfl rfl rfl rfl (hO.ext a0) (by have:=a3.size;have:=a0.size;omega) hB rfl rfl rfl (by show (out.length+1)*2≤_;omega) rfl ?_;intro v3 w3 a4 a1 a7;rw [←Fw] at a1;refine Su ?_;refine QW.body1 Tryz.results177 rfl ⟨?_,(a3.trans a0).step a4 (λb hb=>by have:=(hO.lt hb).1;omega)⟩;rw [←a2,IM h1];show Ay _ _ _ _ v3 (out++[UInt8.ofNat m]).length _;rw [List.length_append];exact a1
set_option maxRecDepth 8000 in
theorem Qr (n:Nat) (hn:n≤9223372036854775807) (w:World):AB Tryz.prog 143 [.int .i64 (n:Int)] w (λv w'=>BX w.heap.size w' v (DD n)∧Ae w w'):=by
 refine AJ Tryz.func143 Tryz.ntmps143 ?_;refine Su ?_;refine CW.loop (ι:=Nat×List UInt8×Value) (λx w'=>x.2.1++DD x.1=DD n∧x.1≤n∧Ae w w'∧Ay w' w.heap.size 5 1 x.2.2 x.2.1.length (AC x.2.1)) (λx=>[(0,.int .i64 x.1),(3,x.2.2)]) (λx=>x.1) (n,[],.slice none 0 0) ⟨rfl,Nat.le_refl _,Chg.refl _ _,Ay.nil _ _ _ _⟩ D5 ?_;rintro ⟨m,out,ov⟩ w1 ⟨a2,a5,a3,hO⟩;dsimp only at a2 a5 hO;show CW _ _ _ _ _ [(0,.int .i64 (m:Int)),(3,ov)] _;have a8:out.length≤10:=by
  have:=congrArg List.length a2;rw [List.length_append] at this;have:=Dm hn;omega
 refine Su ?_;refine Am (λh1=>?_) λh1=>?_
 ·have h1:128≤m:=by simp at h1;omega
  refine Su ?_;refine C0 λB w2 a6 a0 hB=>?_;replace hB:Blk w2 B (AC [UInt8.ofNat (m % 128+128)]) 5:=by
   have e:(128+(m:Int) % 128)=((UInt8.ofNat (m % 128+128)).toNat:Int):=by rw [JL (by omega)];omega
   rw [e] at hB;exact hB
  refine LW.append (lo:=w.heap.size) (k:=out.length) rfl rfl rfl rfl rfl rfl (hO.ext a0) (by have:=a3.size;have:=a0.size;omega) hB rfl rfl rfl (by show (out.length+1)*2≤_;omega) rfl ?_;intro v3 w3 a4 a1 a7;rw [←Fw] at a1;refine Su ?_;exact QW.again (m / 128,out++[UInt8.ofNat (m % 128+128)],v3) ⟨by
   rw [←a2,MD (n:=m) h1];simp,by show m / 128≤n;omega,(a3.trans a0).step a4 (λb hb=>by have:=(hO.lt hb).1;omega),by
   show Ay _ _ _ _ v3 (out++[UInt8.ofNat (m % 128+128)]).length _;rw [List.length_append];exact a1⟩ D5 (by show m / 128<m;omega)
 have h1:m<128:=by simp at h1;omega
 refine Su ?_;refine C0 λB w2 a6 a0 hB=>?_;replace hB:Blk w2 B (AC [UInt8.ofNat m]) 5:=by
  have e:(m:Int)=((UInt8.ofNat m).toNat:Int):=by rw [JL (by omega)]
  rw [e] at hB;exact hB
 refine LW.append (lo:=w.heap.size) (k:=out.length) rfl rfl rfl rfl rfl rfl (hO.ext a0) (by have:=a3.size;have:=a0.size;omega) hB rfl rfl rfl (by show (out.length+1)*2≤_;omega) rfl ?_;intro v3 w3 a4 a1 a7;rw [←Fw] at a1;refine Su ?_;refine QW.body1 Tryz.results143 rfl ⟨?_,(a3.trans a0).step a4 (λb hb=>by have:=(hO.lt hb).1;omega)⟩;rw [←a2,IM h1];show Ay _ _ _ _ v3 (out++[UInt8.ofNat m]).length _;rw [List.length_append];exact a1
theorem BX.app {lo:Nat} {w:World} {v:Value} {l m:List UInt8} (h:Ay w lo 5 1 v (l.length+m.length) (AC l++AC m)):BX lo w v (l++m):=by
 show Ay _ _ _ _ v (l++m).length _;rw [List.length_append,Fw];exact h
theorem BX.bytes' {lo:Nat} {w:World} {p:Option Addr} {c:Nat} {l:List UInt8} (h:BX lo w (.slice p l.length c) l):p=none∧l.length=0∨∃a,p=some a∧∀j u,(AC l)[j]?=some u→w.cell? (a.add j)=some u:=by
 obtain ⟨hx,⟨e,e2⟩ | ⟨g,cap,sp,e,hB,h1,h2,h3⟩⟩:=h
 ·simp only [Value.slice.injEq] at e;exact .inl ⟨e.1,e2⟩
 ·simp only [Value.slice.injEq] at e;refine .inr ⟨_,e.1,λj u hj=>?_⟩;rw [A3];refine hB.cell ?_;rw [Nat.zero_add,List.getElem?_append_left (List.getElem?_eq_some_iff.1 hj).1];exact hj
theorem Pa (s:List UInt8) (hs:s.length≤1000000) (w:World):AB Tryz.prog 178 [Aj s] w (λv w'=>BX w.heap.size w' v (FG s)∧Ae w w'):=by
 refine AJ Tryz.func178 Tryz.ntmps178 ?_;refine Su ?_;refine Ap rfl rfl (RP s.length (by omega) w) ?_;rintro v w1 ⟨hO,a0⟩;obtain ⟨p,c,rfl⟩:=hO.slice;have:=Dm (n:=s.length) (by omega);refine Su ?_;refine LW.append_str (k:=(DD s.length).length) (xs:=AC (DD s.length)) (s:=s) rfl rfl rfl rfl rfl rfl rfl rfl rfl hO a0.size (by show ((DD s.length).length+s.length)*2≤_;omega) rfl ?_;intro v2 w2 a1 a2 a3;refine Su ?_;exact QW.body1 Tryz.results178 rfl ⟨BX.app a2,a0.step a1 (λb hb=>by have:=(hO.lt hb).1;omega)⟩
theorem OI (s:List UInt8) (hs:s.length≤1000000) (w:World):AB Tryz.prog 144 [Aj s] w (λv w'=>BX w.heap.size w' v (FG s)∧Ae w w'):=by
 refine AJ Tryz.func144 Tryz.ntmps144 ?_;refine Su ?_;refine Ap rfl rfl (Qr s.length (by omega) w) ?_;rintro v w1 ⟨hO,a0⟩;obtain ⟨p,c,rfl⟩:=hO.slice;have:=Dm (n:=s.length) (by omega);refine Su ?_;refine LW.append_str (k:=(DD s.length).length) (xs:=AC (DD s.length)) (s:=s) rfl rfl rfl rfl rfl rfl rfl rfl rfl hO a0.size (by show ((DD s.length).length+s.length)*2≤_;omega) rfl ?_;intro v2 w2 a1 a2 a3;refine Su ?_;exact QW.body1 Tryz.results144 rfl ⟨BX.app a2,a0.step a1 (λb hb=>by have:=(hO.lt hb).1;omega)⟩
theorem MX {ok:Addr→Prop} {w:World} {v:Value} {l:List (List UInt8)} (h:Aw ok w v l):∀s∈l,s.length≤1000000:=λs hs=>by
 obtain ⟨i,hi⟩:=List.getElem?_of_mem hs;obtain ⟨p,c,rfl⟩:=h.slice;exact (Aw.at h hi).choose_spec.2.2.1
theorem NN {l:List (List UInt8)} (h:∀s∈l,s.length≤1000000) (hl:l.length≤1000000) (k:Nat):(DD l.length++(l.take k).flatMap FG).length≤10+1000000*1000010:=by
 have h1:=Dm (n:=l.length) (by omega);have h2:=KN (l:=l.take k) λs hs=>h s (List.mem_of_mem_take hs);have h3:(l.take k).length*1000010≤1000000*1000010:=Nat.mul_le_mul_right _ (by rw [List.length_take];omega);rw [List.length_append];omega
theorem K1 (l:List (List UInt8)) (tv:Value) (w:World) (h:BF w tv l):AB Tryz.prog 132 [tv] w (λv w'=>BX w.heap.size w' v (G1 l)∧Ae w w'):=by
 obtain ⟨p,c,rfl⟩:=h.slice;have hl:=h.1;have hs:=MX h;refine AJ Tryz.func132 Tryz.ntmps132 ?_;refine Su ?_;refine Ap rfl rfl (RP l.length (by omega) w) ?_;rintro v w1 ⟨hO,a6⟩;refine Su ?_;refine CW.loop (ι:=Nat×Value) (λx w'=>x.1≤l.length∧Ae w w'∧BX w.heap.size w' x.2 (DD l.length++(l.take x.1).flatMap FG)) (λx=>[(3,x.2),(9,.slice p l.length c),(10,.int .i64 l.length),(11,.int .i64 x.1)]) (λx=>l.length - x.1) (0,v) ⟨by omega,a6,by rw [List.take_zero,List.flatMap_nil,List.append_nil];exact hO⟩ B6 ?_;rintro ⟨k,ov⟩ w2 ⟨hk,a1,a0⟩;dsimp only at hk a0;show CW _ _ _ _ _ [(3,ov),(9,.slice p l.length c),(10,.int .i64 l.length),(11,.int .i64 (k:Int))] _;refine Su ?_;refine Am (λh1=>?_) λh1=>?_;rotate_left
 ·have h1:k=l.length:=by simp at h1;omega
  subst h1;refine Su ?_;refine QW.body1 Tryz.results132 rfl ⟨?_,a1⟩;rw [List.take_length] at a0;exact a0
 have h1:k<l.length:=by simp at h1;omega
 obtain ⟨s,a3⟩:∃s,l[k]?=some s:=⟨_,List.getElem?_eq_getElem h1⟩;obtain ⟨a,rfl,-,a4,hc⟩:=Aw.at (Aw.ext h a1) a3;refine Su ?_;refine Ap rfl rfl (Pa s a4 w2) ?_;rintro u w3 ⟨a5,a2⟩;obtain ⟨pu,cu,rfl⟩:=a5.slice;have hb:=NN hs hl k;have ht:=MG a4;have hq:=(BX.bytes' a5);refine Su ?_;refine LW.append_any (lo:=w.heap.size) (k:=(DD l.length++(l.take k).flatMap FG).length) (xs:=AC (DD l.length++(l.take k).flatMap FG)) (news:=AC (FG s)) rfl rfl rfl rfl rfl rfl (a0.ext a2) (by have:=a1.size;have:=a2.size;omega) (by rw [K2];show _=_*1;omega) hq (LJ _) (by show (_+(FG s).length)*2≤_;omega) rfl ?_;intro v4 w4 a7 a8 a9;refine Su ?_;exact QW.again (k+1,v4) ⟨h1,(a1.trans a2).step a7 (λb hb=>by have:=(a0.lt hb).1;omega),by
  have:=BX.app a8;rw [List.append_assoc] at this;show BX _ _ v4 (DD l.length++(l.take (k+1)).flatMap FG);rw [List.take_add_one,a3,List.flatMap_append]
  simpa using this⟩ B6 (by show l.length - (k+1)<l.length - k;omega)
theorem GR (l:List (List UInt8)) (tv:Value) (w:World) (h:BF w tv l):AB Tryz.prog 104 [tv] w (λv w'=>BX w.heap.size w' v (G1 l)∧Ae w w'):=by
 obtain ⟨p,c,rfl⟩:=h.slice;have hl:=h.1;have hs:=MX h;refine AJ Tryz.func104 Tryz.ntmps104 ?_;refine Su ?_;refine Ap rfl rfl (Qr l.length (by omega) w) ?_;rintro v w1 ⟨hO,a6⟩;refine Su ?_;refine CW.loop (ι:=Nat×Value) (λx w'=>x.1≤l.length∧Ae w w'∧BX w.heap.size w' x.2 (DD l.length++(l.take x.1).flatMap FG)) (λx=>[(0,.slice p l.length c),(3,x.2),(4,.int .i64 x.1)]) (λx=>l.length - x.1) (0,v) ⟨by omega,a6,by rw [List.take_zero,List.flatMap_nil,List.append_nil];exact hO⟩ AX ?_;rintro ⟨k,ov⟩ w2 ⟨hk,a1,a0⟩;dsimp only at hk a0;show CW _ _ _ _ _ [(0,.slice p l.length c),(3,ov),(4,.int .i64 (k:Int))] _;refine Su ?_;refine Am (λh1=>?_) λh1=>?_;rotate_left
 ·have h1:k=l.length:=by simp at h1;omega
  subst h1;refine Su ?_;refine QW.body1 Tryz.results104 rfl ⟨?_,a1⟩;rw [List.take_length] at a0;exact a0
 have h1:k<l.length:=by simp at h1;omega
 obtain ⟨s,a3⟩:∃s,l[k]?=some s:=⟨_,List.getElem?_eq_getElem h1⟩;obtain ⟨a,rfl,-,a4,hc⟩:=Aw.at (Aw.ext h a1) a3;refine Su ?_;refine Ap rfl rfl (OI s a4 w2) ?_;rintro u w3 ⟨a5,a2⟩;obtain ⟨pu,cu,rfl⟩:=a5.slice;have hb:=NN hs hl k;have ht:=MG a4;have hq:=(BX.bytes' a5);refine Su ?_;refine LW.append_any (lo:=w.heap.size) (k:=(DD l.length++(l.take k).flatMap FG).length) (xs:=AC (DD l.length++(l.take k).flatMap FG)) (news:=AC (FG s)) rfl rfl rfl rfl rfl rfl (a0.ext a2) (by have:=a1.size;have:=a2.size;omega) (by rw [K2];show _=_*1;omega) hq (LJ _) (by show (_+(FG s).length)*2≤_;omega) rfl ?_;intro v4 w4 a7 a8 a9;refine Su ?_;exact QW.again (k+1,v4) ⟨h1,(a1.trans a2).step a7 (λb hb=>by have:=(a0.lt hb).1;omega),by
  have:=BX.app a8;rw [List.append_assoc] at this;show BX _ _ v4 (DD l.length++(l.take (k+1)).flatMap FG);rw [List.take_add_one,a3,List.flatMap_append]
  simpa using this⟩ AX (by show l.length - (k+1)<l.length - k;omega)
end Go.Proofs.YtefaigjfkddelaaGreatDoor
