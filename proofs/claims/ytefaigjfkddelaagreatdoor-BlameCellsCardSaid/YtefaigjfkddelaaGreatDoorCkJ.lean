/-
  Joined by program out of the texts BookP BookL BookW PasP PasQ PasW CodeP AliP AliQ BlaP FillP Byt Code1 Code2.
-/
import Derived.Test.YtefaigjfkddelaaGreatDoorCkG
import Derived.Test.YtefaigjfkddelaaGreatDoorCkE
import Derived.Test.YtefaigjfkddelaaGreatDoorCkI
import Derived.Test.YtefaigjfkddelaaGreatDoorCkH
import Derived.Test.YtefaigjfkddelaaGreatDoorCkB
import Derived.Lib.EndianBits
namespace Go.Proofs.YtefaigjfkddelaaGreatDoor
open Go Go.E
structure Aj where
 name:List UInt8
 cols:Int
 rows:List (List (List UInt8))
deriving DecidableEq
abbrev Ah:=List Aj
def Ly (b:Ah) (nm:List UInt8):Option Nat:=b.findIdx? (λs=>decide (s.name=nm))
def Uq:Option Nat→Int
 | some i=>i
 | none=>-1
def EZ (s:Aj) (row col:Int):List UInt8:=(s.rows.getD row.toNat []).getD col.toNat []
theorem MU {b:Ah} {nm:List UInt8} {i:Nat} (h:Ly b nm=some i):∃s,b[i]?=some s∧s.name=nm:=by
 unfold Ly at h;rw [List.findIdx?_eq_some_iff_getElem] at h;obtain ⟨a0,e,_⟩:=h;exact ⟨b[i],List.getElem?_eq_getElem a0,by simpa using e⟩
theorem Sr {b:Ah} {x:List UInt8} (h:∀i s,i<b.length→b[i]?=some s→s.name≠x):Ly b x=none:=by
 unfold Ly;rw [List.findIdx?_eq_none_iff];intro s hs;obtain ⟨i,hi,rfl⟩:=List.getElem_of_mem hs;have:=h i _ hi (List.getElem?_eq_getElem hi)
 simpa using this
theorem Vc {b:Ah} {x:List UInt8} {k:Nat} {s:Aj} (hk:b[k]?=some s) (hs:s.name=x) (h:∀i u,i<k→b[i]?=some u→u.name≠x):Ly b x=some k:=by
 unfold Ly;rw [List.findIdx?_eq_some_iff_getElem];obtain ⟨a0,e⟩:=List.getElem?_eq_some_iff.1 hk;refine ⟨a0,by rw [e];simpa using hs,λj hj=>?_⟩;have:=h j _ hj (List.getElem?_eq_getElem (by omega))
 simpa using this
noncomputable def BX (s:Aj):Bool:=Dm s.name&&decide (0≤s.cols)&&decide (s.cols≤12)&&decide (s.rows.length≤24)&&s.rows.all λr=>decide ((r.length:Int)=s.cols)&&r.all Dc
noncomputable def Fg:Option (List UInt8)→Ah→Bool
 | _,[]=>true
 | p,s::r=>(match p with | none=>true | some q=>Op.bytesLess q s.name)&&BX s&&Fg (some s.name) r
noncomputable def AX (b:Ah):Bool:=decide (b.length≤5)&&Fg none b
def KZ (s:Aj) (row col:Nat) (t:List UInt8):Aj:={s with rows:=s.rows.modify row λr=>r.set col t}
def FJ (b:Ah) (i row col:Nat) (t:List UInt8):Ah:=b.modify i λs=>KZ s row col t
def UZ:DZ (List UInt8):=λ_ _ cs s=>cs=[Ap s]∧s.length≤1000000
abbrev Au (ok:Addr→Prop):World→Value→List (List UInt8)→Prop:=A2 1 ok UZ
def VS (okT:Nat→Addr→Prop):DZ (List (List UInt8)):=λi w cs r=>∃v,cs=[v]∧Au (okT i) w v r
abbrev Bc (okR:Addr→Prop) (okT:Nat→Addr→Prop):World→Value→List (List (List UInt8))→Prop:=A2 1 okR (VS okT)
def A1 (s:Aj) (rv:Value):List Value:=[Ap s.name,.int .i64 s.cols,rv]
def T9 (okR:Nat→Addr→Prop) (okT:Nat→Nat→Addr→Prop):DZ Aj:=λi w cs s=>∃rv,cs=A1 s rv∧s.name.length≤1000000∧Bc (okR i) (okT i) w rv s.rows
abbrev AB (okS:Addr→Prop) (okR:Nat→Addr→Prop) (okT:Nat→Nat→Addr→Prop):World→Value→Ah→Prop:=A2 3 okS (T9 okR okT)
abbrev H5:Addr→Prop:=λ_=>True
abbrev Dg:=Au H5
abbrev E9:=Bc H5 (λ_=>H5)
abbrev BR:=AB H5 (λ_=>H5) (λ_ _=>H5)
theorem Au.chg {S:List Nat} {ok:Addr→Prop} {w w':World} {v:Value} {l:List (List UInt8)} (h:Au ok w v l) (x:Chg S w w') (hs:l≠[]→∀a,ok a→a.block∉S):Au ok w' v l:=A2.chg h x hs λ_ _ _ _ h=>h
theorem Bc.chg {S:List Nat} {okR:Addr→Prop} {okT:Nat→Addr→Prop} {w w':World} {v:Value} {l:List (List (List UInt8))} (h:Bc okR okT w v l) (x:Chg S w w') (hs:∀a,okR a→a.block∉S) (ht:∀i x a,l[i]?=some x→x≠[]→okT i a→a.block∉S):Bc okR okT w' v l:=
 A2.chg h x (λ_=>hs) λi y _ hi ⟨v,h1,h2⟩=>⟨v,h1,h2.chg x (λhn a ha=>ht i y a hi hn ha)⟩
theorem AB.chg {S:List Nat} {okS:Addr→Prop} {okR:Nat→Addr→Prop} {okT:Nat→Nat→Addr→Prop} {w w':World} {v:Value} {l:Ah} (h:AB okS okR okT w v l) (x:Chg S w w') (hs:∀a,okS a→a.block∉S) (hr:∀i a,i<l.length→okR i a→a.block∉S) (ht:∀i s r y a,l[i]?=some s→s.rows[r]?=some y→y≠[]→okT i r a→a.block∉S):AB okS okR okT w' v l:=
 A2.chg h x (λ_=>hs) λi s _ hi ⟨v,h1,h2,h3⟩=>⟨v,h1,h2,h3.chg x (λa ha=>hr i a (List.getElem?_eq_some_iff.1 hi).1 ha) (λr y a hr hn ha=>ht i s r y a hi hr hn ha)⟩
theorem Au.ext {ok:Addr→Prop} {w w':World} {v:Value} {l:List (List UInt8)} (h:Au ok w v l) (x:Ag w w'):Au ok w' v l:=Au.chg h x (by simp)
theorem Bc.ext {okR:Addr→Prop} {okT:Nat→Addr→Prop} {w w':World} {v:Value} {l:List (List (List UInt8))} (h:Bc okR okT w v l) (x:Ag w w'):Bc okR okT w' v l:=Bc.chg h x (by simp) (by simp)
theorem AB.ext {okS:Addr→Prop} {okR:Nat→Addr→Prop} {okT:Nat→Nat→Addr→Prop} {w w':World} {v:Value} {l:Ah} (h:AB okS okR okT w v l) (x:Ag w w'):AB okS okR okT w' v l:=AB.chg h x (by simp) (by simp) (by simp)
theorem Bc.of {okR:Addr→Prop} {okT:Nat→Addr→Prop} {w:World} {v:Value} {l:List (List (List UInt8))} (h:Bc okR okT w v l):E9 w v l:=
 A2.map h (λ_ _=>trivial) λ_ _ _ _ ⟨v,h1,h2⟩=>⟨v,h1,A2.map h2 (λ_ _=>trivial) λ_ _ _ _ h=>h⟩
theorem AB.of {okS:Addr→Prop} {okR:Nat→Addr→Prop} {okT:Nat→Nat→Addr→Prop} {w:World} {v:Value} {l:Ah} (h:AB okS okR okT w v l):BR w v l:=
 A2.map h (λ_ _=>trivial) λ_ _ _ _ ⟨v,h1,h2,h3⟩=>⟨v,h1,h2,Bc.of h3⟩
theorem Au.at {ok:Addr→Prop} {w:World} {p:Option Addr} {c:Nat} {l:List (List UInt8)} (h:Au ok w (.slice p l.length c) l) {i:Nat} {s:List UInt8} (hi:l[i]?=some s):∃a,p=some a∧ok a∧s.length≤1000000∧w.cell? (a.add (((i:Nat):Int).toNat*1))=some (Ap s):=by
 obtain ⟨a,u,h1,h2,⟨h3,h4⟩,h5⟩:=h.at1 hi;simp only [List.cons.injEq,and_true] at h3;subst h3;exact ⟨a,h1,h2,h4,h5⟩
theorem Bc.at {okR:Addr→Prop} {okT:Nat→Addr→Prop} {w:World} {p:Option Addr} {c:Nat} {l:List (List (List UInt8))} (h:Bc okR okT w (.slice p l.length c) l) {i:Nat} {r:List (List UInt8)} (hi:l[i]?=some r):∃a q k,p=some a∧okR a∧Au (okT i) w (.slice q r.length k) r∧w.cell? (a.add (((i:Nat):Int).toNat*1))=some (.slice q r.length k):=by
 obtain ⟨a,u,h1,h2,⟨v,h3,h4⟩,h5⟩:=h.at1 hi;simp only [List.cons.injEq,and_true] at h3;subst h3;obtain ⟨q,k,rfl⟩:=h4.slice;exact ⟨a,q,k,h1,h2,h4,h5⟩
theorem AB.at {okS:Addr→Prop} {okR:Nat→Addr→Prop} {okT:Nat→Nat→Addr→Prop} {w:World} {p:Option Addr} {c:Nat} {l:Ah} (h:AB okS okR okT w (.slice p l.length c) l) {i:Nat} {s:Aj} (hi:l[i]?=some s):∃a q k,p=some a∧okS a∧s.name.length≤1000000∧Bc (okR i) (okT i) w (.slice q s.rows.length k) s.rows∧∀j u,(A1 s (.slice q s.rows.length k))[j]?=some u→w.cell? ((a.add (((i:Nat):Int).toNat*3)).add j)=some u:=by
 obtain ⟨a,cs,h1,h2,h3,⟨rv,rfl,h4,h5⟩,h6⟩:=A2.at h hi;obtain ⟨q,k,rfl⟩:=h5.slice;exact ⟨a,q,k,h1,h2,h4,h5,h6⟩
theorem Kc:∀{a b c:List UInt8},Op.bytesLess a b=true→Op.bytesLess b c=true→Op.bytesLess a c=true
 | [],b,[],h,k=>by cases b<;>simp [Op.bytesLess] at h k
 | [],_,_::_,_,_=>by simp [Op.bytesLess]
 | _::_,[],_,h,_=>by simp [Op.bytesLess] at h
 | _::_,_::_,[],_,k=>by simp [Op.bytesLess] at k
 | x::a,y::b,z::c,h,k=>by
  simp only [Op.bytesLess,Bool.or_eq_true,Bool.and_eq_true,decide_eq_true_eq,beq_iff_eq] at h k ⊢;rcases h with h | ⟨rfl,h⟩
  ·rcases k with k | ⟨rfl,k⟩
   ·exact .inl (UInt8.lt_trans h k)
   ·exact .inl h
  ·rcases k with k | ⟨rfl,k⟩
   ·exact .inl k
   ·exact .inr ⟨rfl,Kc h k⟩
theorem Hi:∀{b:Ah} {p:Option (List UInt8)},Fg p b=true→(∀s∈b,BX s=true∧∀q,p=some q→Op.bytesLess q s.name=true)∧b.Pairwise (λs u=>Op.bytesLess s.name u.name=true)
 | [],_,_=>⟨by simp,.nil⟩
 | s::r,p,h=>by
  simp only [Fg,Bool.and_eq_true] at h;obtain ⟨⟨h1,h2⟩,h3⟩:=h;obtain ⟨h4,h5⟩:=Hi h3;refine ⟨λu hu=>?_,.cons (λu hu=>(h4 u hu).2 _ rfl) h5⟩;rcases List.mem_cons.1 hu with rfl | hu
  ·refine ⟨h2,λq hq=>?_⟩;subst hq;exact h1
  ·refine ⟨(h4 u hu).1,λq hq=>?_⟩;subst hq;exact Kc h1 ((h4 u hu).2 _ rfl)
theorem N9:∀{b:Ah} {p:Option (List UInt8)},(∀s∈b,BX s=true∧∀q,p=some q→Op.bytesLess q s.name=true)→b.Pairwise (λs u=>Op.bytesLess s.name u.name=true)→Fg p b=true
 | [],_,_,_=>rfl
 | s::r,p,h,k=>by
  obtain ⟨k1,k2⟩:=List.pairwise_cons.1 k;simp only [Fg,Bool.and_eq_true];refine ⟨⟨?_,(h s (List.mem_cons_self ..)).1⟩,N9 (λu hu=>⟨(h u (List.mem_cons_of_mem _ hu)).1,λq hq=>?_⟩) k2⟩
  ·cases p with
   | none=>rfl
   | some q=>exact (h s (List.mem_cons_self ..)).2 q rfl
  ·simp only [Option.some.injEq] at hq;rw [←hq];exact k1 u hu
theorem CY {b:Ah}:AX b=true↔b.length≤5∧(∀s∈b,BX s=true)∧b.Pairwise (λs u=>Op.bytesLess s.name u.name=true):=by
 unfold AX;rw [Bool.and_eq_true,decide_eq_true_eq];constructor
 ·rintro ⟨h1,h2⟩;exact ⟨h1,λs hs=>((Hi h2).1 s hs).1,(Hi h2).2⟩
 ·rintro ⟨h1,h2,h3⟩;exact ⟨h1,N9 (λs hs=>⟨h2 s hs,λq hq=>by cases hq⟩) h3⟩
theorem Ol (b:Ah) (i row col:Nat) (t:List UInt8) (j:Nat):(FJ b i row col t)[j]?=if i=j then (b[j]?).map (λs=>KZ s row col t) else b[j]?:=by
 unfold FJ;rw [List.getElem?_modify]
 split<;>simp
def VY:DZ (List UInt8):=λ_ _ cs s=>cs=[Ap s]∧s.length≤9223372036854775807
abbrev EL:World→Value→List (List UInt8)→Prop:=A2 1 H5 VY
def Wt:DZ (List (List UInt8)):=λ_ w cs r=>∃v,cs=[v]∧EL w v r
abbrev FM:World→Value→List (List (List UInt8))→Prop:=A2 1 H5 Wt
def UA:DZ Aj:=λ_ w cs s=>∃rv,cs=A1 s rv∧s.name.length≤1000000∧FM w rv s.rows
abbrev Ea:World→Value→Ah→Prop:=A2 3 H5 UA
theorem EL.ext {w w':World} {v:Value} {l:List (List UInt8)} (h:EL w v l) (x:Ag w w'):EL w' v l:=A2.ext' h x λ_ _ _ _ h=>h
theorem FM.ext {w w':World} {v:Value} {l:List (List (List UInt8))} (h:FM w v l) (x:Ag w w'):FM w' v l:=A2.ext' h x λ_ _ _ _ ⟨v,e,h⟩=>⟨v,e,EL.ext h x⟩
theorem Ea.ext {w w':World} {v:Value} {l:Ah} (h:Ea w v l) (x:Ag w w'):Ea w' v l:=A2.ext' h x λ_ _ _ _ ⟨rv,e,hn,h⟩=>⟨rv,e,hn,FM.ext h x⟩
theorem EL.at {w:World} {p:Option Addr} {c:Nat} {l:List (List UInt8)} (h:EL w (.slice p l.length c) l) {i:Nat} {s:List UInt8} (hi:l[i]?=some s):∃a,p=some a∧H5 a∧s.length≤9223372036854775807∧w.cell? (a.add (((i:Nat):Int).toNat*1))=some (Ap s):=by
 obtain ⟨a,u,h1,h2,⟨e,h3⟩,h4⟩:=A2.at1 h hi;obtain rfl:=(List.cons.inj e).1;exact ⟨a,h1,h2,h3,h4⟩
theorem FM.at {w:World} {p:Option Addr} {c:Nat} {l:List (List (List UInt8))} (h:FM w (.slice p l.length c) l) {i:Nat} {r:List (List UInt8)} (hi:l[i]?=some r):∃a q k,p=some a∧H5 a∧EL w (.slice q r.length k) r∧w.cell? (a.add (((i:Nat):Int).toNat*1))=some (.slice q r.length k):=by
 obtain ⟨a,u,h1,h2,⟨u',e,h3⟩,h4⟩:=A2.at1 h hi;obtain rfl:=(List.cons.inj e).1;obtain ⟨q,k,rfl⟩:=A2.slice h3;exact ⟨a,q,k,h1,h2,h3,h4⟩
theorem Ea.at {w:World} {p:Option Addr} {c:Nat} {l:Ah} (h:Ea w (.slice p l.length c) l) {i:Nat} {s:Aj} (hi:l[i]?=some s):∃a q k,p=some a∧H5 a∧s.name.length≤1000000∧FM w (.slice q s.rows.length k) s.rows∧∀j u,(A1 s (.slice q s.rows.length k))[j]?=some u→w.cell? ((a.add (((i:Nat):Int).toNat*3)).add j)=some u:=by
 obtain ⟨a,cs,h1,h2,-,⟨rv,rfl,h3,h4⟩,h5⟩:=A2.at h hi;obtain ⟨q,k,rfl⟩:=A2.slice h4;exact ⟨a,q,k,h1,h2,h3,h4,h5⟩
theorem Au.loose {ok:Addr→Prop} {w:World} {v:Value} {l:List (List UInt8)} (h:Au ok w v l):EL w v l:=A2.map h (λ_ _=>trivial) λ_ _ _ _ ⟨e,h⟩=>⟨e,by omega⟩
theorem Bc.loose {okR:Addr→Prop} {okT:Nat→Addr→Prop} {w:World} {v:Value} {l:List (List (List UInt8))} (h:Bc okR okT w v l):FM w v l:=A2.map h (λ_ _=>trivial) λ_ _ _ _ ⟨v,e,h⟩=>⟨v,e,Au.loose h⟩
theorem AB.loose {okS:Addr→Prop} {okR:Nat→Addr→Prop} {okT:Nat→Nat→Addr→Prop} {w:World} {v:Value} {l:Ah} (h:AB okS okR okT w v l):Ea w v l:=A2.map h (λ_ _=>trivial) λ_ _ _ _ ⟨rv,e,hn,h⟩=>⟨rv,e,hn,Bc.loose h⟩
theorem NA {s:List UInt8} (h:Dc s=true):s.length≤300:=by
 unfold Dc at h
 split at h
 ·cases h
 ·omega
structure Ax where
 id:List UInt8
 parents:List (List UInt8)
 book:Ah
 note:List UInt8
abbrev As:=List Ax
def D6:As→List UInt8→Option Nat
 | [],_=>none
 | c::l,id=>if c.id=id then some 0 else (D6 l id).map (·+1)
theorem Es:∀{l:As} {id:List UInt8} {k:Nat},D6 l id=some k→∃c,l[k]?=some c∧c.id=id∧∀j d,j<k→l[j]?=some d→d.id≠id
 | [],_,_,h=>by cases h
 | c::l,id,k,h=>by
  rw [D6] at h
  split at h
  ·rename_i e;obtain rfl:=Option.some.inj h;exact ⟨c,rfl,e,λj d hj=>absurd hj (Nat.not_lt_zero _)⟩
  ·rename_i e
   cases hg:D6 l id with
   | none=>rw [hg] at h;cases h
   | some n=>
    rw [hg] at h;obtain rfl:=Option.some.inj h;obtain ⟨d,h1,h2,h3⟩:=Es hg;refine ⟨d,by simpa using h1,h2,λj u hj hu=>?_⟩
    cases j with
    | zero=>simp at hu;rw [←hu];exact e
    | succ j=>
     have hj':j+1<n+1:=hj;exact h3 j u (by omega) (by simpa using hu)
theorem GT {l:As} {id:List UInt8} {k:Nat} (h:D6 l id=some k):k<l.length:=by
 obtain ⟨c,h1,-⟩:=Es h;exact (List.getElem?_eq_some_iff.1 h1).1
theorem H6:∀{l:As} {id:List UInt8},D6 l id=none→∀c∈l,c.id≠id
 | [],_,_=>by simp
 | c::l,id,h=>by
  rw [D6] at h
  split at h
  ·cases h
  ·rename_i e;have h2:D6 l id=none:=by
    cases hg:D6 l id with
    | none=>rfl
    | some n=>rw [hg] at h;cases h
   intro d hd;rcases List.mem_cons.1 hd with rfl | hd
   ·exact e
   ·exact H6 h2 d hd
theorem JB:∀{l:As} {id:List UInt8} {k:Nat} {c:Ax},l[k]?=some c→c.id=id→(∀j d,j<k→l[j]?=some d→d.id≠id)→D6 l id=some k
 | [],_,_,_,h,_,_=>by simp at h
 | c::l,id,0,d,h,e,_=>by
  simp at h;subst h
  rw [D6,if_pos e]
 | c::l,id,k+1,d,h,e,hn=>by
  rw [D6,if_neg (hn 0 c (by omega) rfl),JB (k:=k) (by simpa using h) e λj u hj hu=>hn (j+1) u (by omega) (by simpa using hu)];rfl
theorem MX {l:As} {id:List UInt8} {n k:Nat} (h:D6 (l.take n) id=some k):D6 l id=some k∧k<n:=by
 obtain ⟨c,h1,h2,h3⟩:=Es h;have hk:k<(l.take n).length:=(List.getElem?_eq_some_iff.1 h1).1;have a0:k<n:=by simp at hk;omega
 rw [List.getElem?_take_of_lt a0] at h1;exact ⟨JB h1 h2 λj d hj hd=>h3 j d hj (by rw [List.getElem?_take_of_lt (by omega)];exact hd),a0⟩
def FW (l:As) (i:Nat) (c:Ax):Bool:=
 (D6 (l.take i) c.id).isNone&&decide (c.parents.length≤2)&&!(decide (c.parents.length=2)&&decide (c.parents[0]?=c.parents[1]?))&&c.parents.all λp=>(D6 (l.take i) p).isSome
def Ew (l:As):Bool:=(List.range l.length).all λi=>match l[i]? with
 | none=>true
 | some c=>FW l i c
theorem M1 {l:As} (h:Ew l=true) {i:Nat} {c:Ax} (hi:l[i]?=some c):FW l i c=true:=by
 have h1:=List.all_eq_true.1 h i (List.mem_range.2 (List.getElem?_eq_some_iff.1 hi).1);rw [hi] at h1;exact h1
theorem Km {l:As} (h:Ew l=true) {i:Nat} {c:Ax} (hi:l[i]?=some c):D6 l c.id=some i:=by
 refine JB hi rfl λj d hj hd e=>?_;have h1:=M1 h hi;simp only [FW,Bool.and_eq_true,Option.isNone_iff_eq_none] at h1;exact H6 h1.1.1.1 d (List.mem_of_getElem? (i:=j) (by rw [List.getElem?_take_of_lt hj];exact hd)) e
theorem DO {l:As} (h:Ew l=true) {i:Nat} {c:Ax} (hi:l[i]?=some c) {p:List UInt8} (hp:p∈c.parents):∃k,D6 l p=some k∧k<i:=by
 have h1:=M1 h hi;simp only [FW,Bool.and_eq_true,List.all_eq_true] at h1;obtain ⟨k,hk⟩:=Option.isSome_iff_exists.1 (h1.2 p hp);exact ⟨k,MX hk⟩
def CF (l:As):Nat→Option Nat→List Nat
 | 0,_=>[]
 | _+1,none=>[]
 | n+1,some k=>k::match l[k]? with
  | none=>[]
  | some c=>match c.parents with
   | []=>[]
   | p::_=>CF l n (D6 l p)
def Bz (l:As) (id:List UInt8):List Nat:=CF l l.length (D6 l id)
theorem OY {l:As} (h:Ew l=true):∀(k n m:Nat),k<n→k<m→k<l.length→CF l n (some k)=CF l m (some k):=by
 intro k
 induction k using Nat.strongRecOn with
 | _ k ih=>
  intro n m hn hm hk;obtain ⟨n,rfl⟩:∃q,n=q+1:=⟨n - 1,by omega⟩;obtain ⟨m,rfl⟩:∃q,m=q+1:=⟨m - 1,by omega⟩;obtain ⟨c,hc⟩:∃c,l[k]?=some c:=⟨_,List.getElem?_eq_getElem hk⟩;rw [CF,CF,hc]
  congr 1
  simp only
  cases hp:c.parents with
  | nil=>rfl
  | cons p r=>
   simp only;obtain ⟨j,hj,a0⟩:=DO h hc (p:=p) (by rw [hp];exact List.mem_cons_self ..);rw [hj];exact ih j a0 n m (by omega) (by omega) (by omega)
theorem N5 {l:As}:∀(n:Nat) (o:Option Nat),(∀k,o=some k→k<l.length)→∀k∈CF l n o,k<l.length
 | 0,_,_,k,h=>by simp [CF] at h
 | n+1,none,_,k,h=>by simp [CF] at h
 | n+1,some q,hq,k,h=>by
  rw [CF] at h;rcases List.mem_cons.1 h with rfl | h
  ·exact hq k rfl
  ·cases hc:l[q]? with
   | none=>rw [hc] at h;simp at h
   | some c=>
    rw [hc] at h;simp only at h
    cases hp:c.parents with
    | nil=>rw [hp] at h;simp at h
    | cons p r=>
     rw [hp] at h;simp only at h;exact N5 n _ (λk hk=>GT hk) k h
def VX:GJ (List UInt8):=λ_ cs s=>cs=[Ap s]∧s.length≤9223372036854775807
abbrev D5:World→Value→List (List UInt8)→Prop:=BE 1 VX
def Cw (c:Ax) (pv bv:Value):List Value:=[Ap c.id,pv,bv,Ap c.note]
def Jp:GJ Ax:=λw cs c=>∃pv bv,cs=Cw c pv bv∧D5 w pv c.parents∧c.id.length≤9223372036854775807∧∃bp bn bc,bv=.slice bp bn bc
abbrev DK:World→Value→As→Prop:=BE 4 Jp
theorem D5.ext {w w':World} {v:Value} {l:List (List UInt8)} (h:D5 w v l) (x:Ag w w'):D5 w' v l:=BE.ext h x λ_ _ h=>h
theorem Jp.ext {w w':World} {cs:List Value} {c:Ax} (h:Jp w cs c) (x:Ag w w'):Jp w' cs c:=let ⟨pv,bv,e,h1,h2⟩:=h;⟨pv,bv,e,h1.ext x,h2⟩
theorem DK.ext {w w':World} {v:Value} {l:As} (h:DK w v l) (x:Ag w w'):DK w' v l:=BE.ext h x λ_ _ h=>h.ext x
theorem D5.at {w:World} {p:Option Addr} {c:Nat} {l:List (List UInt8)} (h:D5 w (.slice p l.length c) l) {i:Nat} {s:List UInt8} (hi:l[i]?=some s):∃a,p=some a∧s.length≤9223372036854775807∧w.cell? (a.add (((i:Nat):Int).toNat*1))=some (Ap s):=by
 obtain ⟨a,cs,h1,h2,⟨rfl,h3⟩,h4⟩:=BE.at h hi;exact ⟨a,h1,h3,by have:=h4 0 _ rfl;rwa [Im] at this⟩
theorem DK.at {w:World} {p:Option Addr} {k:Nat} {l:As} (h:DK w (.slice p l.length k) l) {i:Nat} {c:Ax} (hi:l[i]?=some c):∃a q n bv,p=some a∧D5 w (.slice q c.parents.length n) c.parents∧∀j u,(Cw c (.slice q c.parents.length n) bv)[j]?=some u→w.cell? ((a.add (((i:Nat):Int).toNat*4)).add j)=some u:=by
 obtain ⟨a,cs,h1,h2,⟨pv,bv,rfl,h3,h4⟩,h5⟩:=BE.at h hi;obtain ⟨q,n,rfl⟩:=h3.slice;exact ⟨a,q,n,bv,h1,h3,h5⟩
theorem DK.at' {w:World} {p:Option Addr} {k:Nat} {l:As} (h:DK w (.slice p l.length k) l) {i:Nat} {c:Ax} (hi:l[i]?=some c):∃a q n bp bn bc,p=some a∧D5 w (.slice q c.parents.length n) c.parents∧∀j u,(Cw c (.slice q c.parents.length n) (.slice bp bn bc))[j]?=some u→w.cell? ((a.add (((i:Nat):Int).toNat*4)).add j)=some u:=by
 obtain ⟨a,cs,h1,h2,⟨pv,bv,rfl,h3,h4,bp,bn,bc,rfl⟩,h5⟩:=BE.at h hi;obtain ⟨q,n,rfl⟩:=h3.slice;exact ⟨a,q,n,bp,bn,bc,h1,h3,h5⟩
theorem BE.weak {α:Type} {m:Nat} {R S:GJ α} {w:World} {v:Value} {l:List α} (h:BE m R w v l) (hR:∀x cs,x∈l→R w cs x→S w cs x):BE m S w v l:=by
 obtain ⟨h0,h | ⟨a,c,e,h⟩⟩:=h
 ·exact ⟨h0,.inl h⟩
 ·exact ⟨h0,.inr ⟨a,c,e,λi y hi=>let ⟨cs,h1,h2,h3⟩:=h i y hi;⟨cs,h1,hR y cs (List.mem_of_getElem? hi) h2,h3⟩⟩⟩
def H8:GJ Ax:=λw cs c=>∃pv bv,cs=Cw c pv bv∧D5 w pv c.parents∧c.id.length≤1000000∧BR w bv c.book∧AX c.book=true
abbrev CB:World→Value→As→Prop:=BE 4 H8
theorem CB.ext {w w':World} {v:Value} {l:As} (h:CB w v l) (x:Ag w w'):CB w' v l:=BE.ext h x λ_ _ ⟨pv,bv,e,h1,h2,h3,h4⟩=>⟨pv,bv,e,h1.ext x,h2,AB.ext h3 x,h4⟩
theorem CB.past {w:World} {v:Value} {l:As} (h:CB w v l):DK w v l:=BE.weak h λc cs _ ⟨pv,bv,e,h1,h2,h3,_⟩=>by
 obtain ⟨p,k,rfl⟩:=h3.slice;exact ⟨pv,_,e,h1,by omega,p,_,k,rfl⟩
theorem CB.at {w:World} {p:Option Addr} {k:Nat} {l:As} (h:CB w (.slice p l.length k) l) {i:Nat} {c:Ax} (hi:l[i]?=some c):∃a q n bp bc,p=some a∧D5 w (.slice q c.parents.length n) c.parents∧BR w (.slice bp c.book.length bc) c.book∧c.id.length≤1000000∧AX c.book=true∧∀j u,(Cw c (.slice q c.parents.length n) (.slice bp c.book.length bc))[j]?=some u→w.cell? ((a.add (((i:Nat):Int).toNat*4)).add j)=some u:=by
 obtain ⟨a,cs,h1,h2,⟨pv,bv,rfl,h3,h4,h5,h6⟩,h7⟩:=BE.at h hi;obtain ⟨q,n,rfl⟩:=h3.slice;obtain ⟨bp,bc,rfl⟩:=h5.slice;exact ⟨a,q,n,bp,bc,h1,h3,h5,h4,h6,h7⟩
theorem CB.may {w:World} {v:Value} {l:As} (h:CB w v l):∀c∈l,AX c.book=true∧c.id.length≤1000000:=λc hc=>by
 obtain ⟨i,hi⟩:=List.getElem?_of_mem hc;obtain ⟨p,k,rfl⟩:=BE.slice h;obtain ⟨a,q,n,bp,bc,-,-,-,h1,h2,-⟩:=CB.at h hi;exact ⟨h2,h1⟩
def CS (n:Nat):List UInt8:=if h:n<128 then [UInt8.ofNat n] else UInt8.ofNat (n % 128+128)::CS (n / 128)
 termination_by n
 decreasing_by omega
def ON:Nat→Nat→List UInt8→Option (Nat×Nat)
 | 0,_,_=>none
 | _+1,_,[]=>none
 | k+1,i,c::r=>if 128≤c.toNat then (match ON k (i+1) r with | none=>none | some (n,m)=>some (c.toNat - 128+128*n,m+1)) else if c.toNat=0∧0<i then none else some (c.toNat,1)
def Uk (b:List UInt8) (i:Nat):Option (Nat×Nat):=match ON 9 0 (b.drop i) with
 | none=>none
 | some (n,m)=>some (n,i+m)
def DW (s:List UInt8):List UInt8:=CS s.length++s
def Vk (b:List UInt8) (i:Nat):Option (List UInt8×Nat):=match Uk b i with
 | none=>none
 | some (n,j)=>if n≤b.length - j then some ((b.drop j).take n,j+n) else none
def DV (l:List (List UInt8)):List UInt8:=CS l.length++l.flatMap DW
def Nq (b:List UInt8):Nat→Nat→Option (List (List UInt8)×Nat)
 | 0,j=>some ([],j)
 | n+1,j=>match Vk b j with
  | none=>none
  | some (s,k)=>match Nq b n k with
   | none=>none
   | some (l,m)=>some (s::l,m)
def VF (b:List UInt8) (i:Nat):Option (List (List UInt8)×Nat):=match Uk b i with
 | none=>none
 | some (n,j)=>if n≤b.length - j then Nq b n j else none
theorem F6 {n:Nat} (h:n<128):CS n=[UInt8.ofNat n]:=by rw [CS,dif_pos h]
theorem HT {n:Nat} (h:128≤n):CS n=UInt8.ofNat (n % 128+128)::CS (n / 128):=by rw [CS,dif_neg (by omega)]
theorem Ii {n:Nat} (h:n<256):(UInt8.ofNat n).toNat=n:=by simp;omega
theorem PR:∀(k i n:Nat) (r:List UInt8),0<k→n<128 ^ k→(0<i→0<n)→ON k i (CS n++r)=some (n,(CS n).length)
 | 0,_,_,_,h,_,_=>by omega
 | k+1,i,n,r,_,h,hi=>by
  by_cases h1:n<128
  ·rw [F6 h1];show ON (k+1) i (UInt8.ofNat n::r)=_;rw [ON,Ii (by omega),if_neg (by omega)];by_cases h2:n=0∧0<i
   ·exact absurd (hi h2.2) (by omega)
   ·rw [if_neg h2];rfl
  ·rw [HT (by omega)];show ON (k+1) i (UInt8.ofNat (n % 128+128)::(CS (n / 128)++r))=_;have hk:0<k:=by
    rcases Nat.eq_zero_or_pos k with e | e
    ·subst e;simp at h;omega
    ·exact e
   have ih:=PR k (i+1) (n / 128) r hk (by rw [Nat.pow_succ] at h;omega) (by omega);rw [ON,Ii (by omega),if_pos (by omega),ih];simp only [Option.some.injEq,Prod.mk.injEq,List.length_cons,and_true];omega
theorem Tw (n:Nat):0<(CS n).length:=by
 by_cases h:n<128
 ·rw [F6 h];simp
 ·rw [HT (by omega)];simp
theorem JK {b p r:List UInt8} {i:Nat} (h:b.drop i=p++r):b.drop (i+p.length)=r:=by
 rw [←List.drop_drop,h,List.drop_left]
theorem PQ {b r:List UInt8} {i n:Nat} (h:b.drop i=CS n++r) (hn:n<128 ^ 9):Uk b i=some (n,i+(CS n).length):=by
 rw [Uk,h,PR 9 0 n r (by decide) hn (by omega)]
theorem Ul {b r s:List UInt8} {i:Nat} (h:b.drop i=DW s++r) (hn:s.length<128 ^ 9):Vk b i=some (s,i+(DW s).length):=by
 rw [DW,List.append_assoc] at h;rw [Vk,PQ h hn];have h2:=JK h;have h3:(b.drop (i+(CS s.length).length)).length=(s++r).length:=by rw [h2]
 rw [List.length_drop,List.length_append] at h3;show (if s.length≤b.length - (i+(CS s.length).length) then _ else _)=_;rw [if_pos (by omega),h2,List.take_left,DW,List.length_append,Nat.add_assoc]
theorem Nr {b r:List UInt8}:∀{l:List (List UInt8)} {i:Nat},b.drop i=l.flatMap DW++r→(∀s∈l,s.length<128 ^ 9)→Nq b l.length i=some (l,i+(l.flatMap DW).length)
 | [],i,_,_=>by simp [Nq]
 | s::l,i,h,hs=>by
  rw [List.flatMap_cons,List.append_assoc] at h;rw [List.length_cons,Nq,Ul h (hs s (List.mem_cons_self ..))];simp only;rw [Nr (JK h) λs h=>hs s (List.mem_cons_of_mem _ h)];simp [Nat.add_assoc]
theorem Tx (s:List UInt8):0<(DW s).length:=by
 have:=Tw s.length;rw [DW,List.length_append];omega
theorem LZ:∀(l:List (List UInt8)),l.length≤(l.flatMap DW).length
 | []=>by simp
 | s::l=>by
  have:=LZ l;have:=Tx s;rw [List.flatMap_cons,List.length_append,List.length_cons];omega
theorem PO {b r:List UInt8} {l:List (List UInt8)} {i:Nat} (h:b.drop i=DV l++r) (hl:l.length<128 ^ 9) (hs:∀s∈l,s.length<128 ^ 9):VF b i=some (l,i+(DV l).length):=by
 rw [DV,List.append_assoc] at h;rw [VF,PQ h hl];have h2:=JK h;have h3:(b.drop (i+(CS l.length).length)).length=(l.flatMap DW++r).length:=by rw [h2]
 rw [List.length_drop,List.length_append] at h3;have:=LZ l;show (if l.length≤b.length - (i+(CS l.length).length) then _ else _)=_;rw [if_pos (by omega),Nr h2 hs,DV,List.length_append,Nat.add_assoc]
section
variable {α:Type} [DecidableEq α]
def BG:List α→List α→Nat
 | [],_=>0
 | _::_,[]=>0
 | x::a,y::b=>if x=y then BG a b+1 else max (BG a (y::b)) (BG (x::a) b)
 termination_by a b=>a.length+b.length
def Az:List α→List α→Nat→Nat→List (Nat×Nat)
 | [],_,_,_=>[]
 | _::_,[],_,_=>[]
 | x::a,y::b,i,k=>if x=y then (i,k)::Az a b (i+1) (k+1) else if BG (x::a) b≤BG a (y::b) then Az a (y::b) (i+1) k else Az (x::a) b i (k+1)
 termination_by a b _ _=>a.length+b.length
theorem IQ:∀(a:List α) (i k:Nat),Az a a i k=(List.range a.length).map λj=>(i+j,k+j)
 | [],_,_=>by simp [Az]
 | x::a,i,k=>by
  rw [Az,if_pos rfl,IQ a,List.length_cons,List.range_succ_eq_map];simp only [List.map_cons,List.map_map,Nat.add_zero,List.cons.injEq,true_and];apply List.map_congr_left;intro j _;simp only [Function.comp,Prod.mk.injEq];omega
theorem G9:∀(a b:List α) (i k:Nat),∀p∈Az a b i k,i≤p.1∧p.1<i+a.length∧k≤p.2∧p.2<k+b.length
 | [],_,_,_,p,h=>by simp [Az] at h
 | _::_,[],_,_,p,h=>by simp [Az] at h
 | x::a,y::b,i,k,p,h=>by
  rw [Az] at h;simp only [List.length_cons]
  split at h
  ·rcases List.mem_cons.1 h with rfl | h
   ·simp
   ·have:=G9 a b (i+1) (k+1) p h;omega
  split at h
  ·have:=G9 a (y::b) (i+1) k p h;simp only [List.length_cons] at this;omega
  ·have:=G9 (x::a) b i (k+1) p h;simp only [List.length_cons] at this;omega
 termination_by a b _ _=>a.length+b.length
theorem FU {β:Type} [DecidableEq β] {f:α→β}:∀(a b:List α),(∀x∈a,∀y∈b,f x=f y→x=y)→BG (a.map f) (b.map f)=BG a b
 | [],_,_=>by simp [BG]
 | _::_,[],_=>by simp [BG]
 | x::a,y::b,h=>by
  have hxy:(f x=f y)↔(x=y):=⟨h x (List.mem_cons_self ..) y (List.mem_cons_self ..),λe=>by rw [e]⟩;have h1:=FU (f:=f) a b λu hu v hv=>h u (List.mem_cons_of_mem _ hu) v (List.mem_cons_of_mem _ hv);have h2:=FU (f:=f) a (y::b) λu hu v hv=>h u (List.mem_cons_of_mem _ hu) v hv;have h3:=FU (f:=f) (x::a) b λu hu v hv=>h u hu v (List.mem_cons_of_mem _ hv);simp only [List.map_cons] at h2 h3 ⊢;rw [BG,BG,h1,h2,h3];by_cases e:x=y
  ·rw [if_pos (hxy.2 e),if_pos e]
  ·rw [if_neg (λk=>e (hxy.1 k)),if_neg e]
 termination_by a b=>a.length+b.length
theorem F5 {β:Type} [DecidableEq β] {f:α→β}:∀(a b:List α) (i k:Nat),(∀x∈a,∀y∈b,f x=f y→x=y)→Az (a.map f) (b.map f) i k=Az a b i k
 | [],_,_,_,_=>by simp [Az]
 | _::_,[],_,_,_=>by simp [Az]
 | x::a,y::b,i,k,h=>by
  have hxy:(f x=f y)↔(x=y):=⟨h x (List.mem_cons_self ..) y (List.mem_cons_self ..),λe=>by rw [e]⟩;have g1:∀u∈a,∀v∈b,f u=f v→u=v:=λu hu v hv=>h u (List.mem_cons_of_mem _ hu) v (List.mem_cons_of_mem _ hv);have g2:∀u∈a,∀v∈y::b,f u=f v→u=v:=λu hu v hv=>h u (List.mem_cons_of_mem _ hu) v hv;have g3:∀u∈x::a,∀v∈b,f u=f v→u=v:=λu hu v hv=>h u hu v (List.mem_cons_of_mem _ hv);have l2:=FU (f:=f) a (y::b) g2;have l3:=FU (f:=f) (x::a) b g3;have h1:=F5 (f:=f) a b (i+1) (k+1) g1;have h2:=F5 (f:=f) a (y::b) (i+1) k g2;have h3:=F5 (f:=f) (x::a) b i (k+1) g3;simp only [List.map_cons] at l2 l3 h2 h3 ⊢;rw [Az,Az,l2,l3,h1,h2,h3];by_cases e:x=y
  ·rw [if_pos (hxy.2 e),if_pos e]
  ·rw [if_neg (λk=>e (hxy.1 k)),if_neg e]
 termination_by a b _ _=>a.length+b.length
end
def Bj (n:Nat) (ps:List (Nat×Nat)):List Int:=ps.foldl (λl p=>l.set p.1 (p.2:Int)) (List.replicate n (-1))
def Cp (new:Int):List Int→Int
 | []=>new
 | k::r=>if 0≤k then k else Cp new r
def Dx (new:Int):Int→List Int→List Int
 | _,[]=>[]
 | free,k::r=>if 0≤k then k::Dx new (k+1) r else if free<Cp new r then free::Dx new (free+1) r else -1::Dx new free r
theorem DN (n:Nat) (ps:List (Nat×Nat)):(Bj n ps).length=n:=by
 unfold Bj;have:∀(ps:List (Nat×Nat)) (l:List Int),(ps.foldl (λl p=>l.set p.1 (p.2:Int)) l).length=l.length:=λps=>by
  induction ps with
  | nil=>simp
  | cons p r ih=>intro l;rw [List.foldl_cons,ih,List.length_set]
 rw [this];simp
theorem Gy (new:Int):∀(free:Int) (l:List Int),(Dx new free l).length=l.length
 | _,[]=>rfl
 | free,k::r=>by
  rw [Dx]
  split
  ·simp [Gy new (k+1) r]
  split
  ·simp [Gy new (free+1) r]
  ·simp [Gy new free r]
theorem JM (new:Int):∀(free:Int) (l:List Int),(∀k∈l,0≤k)→Dx new free l=l
 | _,[],_=>rfl
 | free,k::r,h=>by
  rw [Dx,if_pos (h k (List.mem_cons_self ..)),JM new (k+1) r λx hx=>h x (List.mem_cons_of_mem _ hx)]
def BO (n:Nat):List Int:=(List.range n).map λ(i:Nat)=>(i:Int)
def B8 {α:Type} [DecidableEq α] (a b:List α):List Int:=Dx b.length 0 (Bj a.length (Az a b 0 0))
theorem Gc {α:Type} [DecidableEq α] (a b:List α):(B8 a b).length=a.length:=by rw [B8,Gy,DN]
theorem HK:∀(n m:Nat),m≤n→Bj n ((List.range m).map λj=>(0+j,0+j))=BO m++List.replicate (n - m) (-1)
 | n,0,_=>by simp [Bj,BO]
 | n,m+1,h=>by
  have ih:=HK n m (by omega);unfold Bj at ih ⊢;rw [List.range_succ,List.map_append,List.foldl_append,ih];simp only [List.map_cons,List.map_nil,List.foldl_cons,List.foldl_nil,Nat.zero_add];rw [List.set_append_right _ _ (by simp [BO]),show m - (BO m).length=0 by simp [BO],show n - m=(n - (m+1))+1 by omega,List.replicate_succ,List.set_cons_zero];simp [BO,List.range_succ]
theorem M6 {α:Type} [DecidableEq α] (a:List α):B8 a a=BO a.length:=by
 rw [B8,IQ,HK _ _ (Nat.le_refl _),Nat.sub_self,List.replicate_zero,List.append_nil];exact JM _ _ _ λk hk=>by
  simp only [BO,List.mem_map] at hk;obtain ⟨i,_,rfl⟩:=hk;omega
def Cg (r:List (List UInt8)):List UInt8:=DV (r.filter λs=>decide (s≠[]))
def BM (a b:Aj):List Int:=B8 (a.rows.map Cg) (b.rows.map Cg)
def Bs (a b:Aj) (m:List Int):List (Nat×Nat):=(List.range a.rows.length).filterMap λi=>match (m[i]?:Option Int) with
 | none=>none
 | some (k:Int)=>if 0≤k∧k<b.rows.length∧Cg (a.rows.getD i [])=Cg (b.rows.getD k.toNat []) then some (i,k.toNat) else none
def EN (s:Aj) (rs:List Nat) (c:Nat):List UInt8:=DV (rs.map λr=>(s.rows.getD r []).getD c [])
def A8 (s:Aj) (rs:List Nat):List (List UInt8):=(List.range s.cols.toNat).map (EN s rs)
def EO (a b:Aj) (m:List Int):List Int:=B8 (A8 a ((Bs a b m).map Prod.fst)) (A8 b ((Bs a b m).map Prod.snd))
section
variable {α:Type} [DecidableEq α]
def HJ:List α→List α→Nat→List Int
 | [],_,_=>[]
 | _::a,[],k=>-1::HJ a [] k
 | x::a,y::b,k=>if x=y then (k:Int)::HJ a b (k+1) else if BG (x::a) b≤BG a (y::b) then -1::HJ a (y::b) k else HJ (x::a) b (k+1)
 termination_by a b _=>a.length+b.length
theorem Iy:∀(a:List α) (k:Nat),HJ a [] k=List.replicate a.length (-1)
 | [],_=>by simp [HJ]
 | x::a,k=>by rw [HJ,Iy a k,List.length_cons,List.replicate_succ]
theorem HD:∀(a b:List α) (i k:Nat) (pre:List Int),pre.length=i→(Az a b i k).foldl (λl p=>l.set p.1 (p.2:Int)) (pre++List.replicate a.length (-1))=pre++HJ a b k
 | [],_,_,_,pre,_=>by simp [Az,HJ]
 | x::a,[],i,k,pre,_=>by
  rw [Iy]
  simp [Az]
 | x::a,y::b,i,k,pre,h=>by
  rw [Az,HJ]
  split
  ·rw [List.foldl_cons];simp only [List.length_cons,List.replicate_succ];rw [List.set_append_right _ _ (by omega),h,Nat.sub_self,List.set_cons_zero];have:=HD a b (i+1) (k+1) (pre++[(k:Int)]) (by simp [h]);rw [List.append_assoc,List.singleton_append] at this;rw [this,List.append_assoc,List.singleton_append]
  split
  ·have:=HD a (y::b) (i+1) k (pre++[-1]) (by simp [h]);rw [List.append_assoc,List.singleton_append] at this;simp only [List.length_cons,List.replicate_succ];rw [this,List.append_assoc,List.singleton_append]
  ·exact HD (x::a) b i (k+1) pre h
 termination_by a b _ _ _=>a.length+b.length
theorem Pb (a b:List α):Bj a.length (Az a b 0 0)=HJ a b 0:=by
 have:=HD a b 0 0 [] rfl
 simpa [Bj] using this
theorem IW {new:Int}:∀{l:List Int} {last last':Int},Ci new last l=true→last'≤last→Ci new last' l=true
 | [],_,_,_,_=>rfl
 | z::r,last,last',h,hl=>by
  rw [Ci] at h ⊢
  split at h
  ·rename_i e;rw [if_pos e];exact IW h hl
  ·rename_i e;rw [if_neg e]
   split at h
   ·cases h
   ·rw [if_neg (by omega)];exact h
theorem KA (new last:Int):∀n:Nat,Ci new last (List.replicate n (-1))=true
 | 0=>rfl
 | n+1=>by rw [List.replicate_succ,Ci,if_pos rfl,KA new last n]
theorem G2:∀(a b:List α) (k:Nat),Ci ((k+b.length:Nat):Int) ((k:Int) - 1) (HJ a b k)=true
 | [],_,_=>by simp [HJ,Ci]
 | x::a,[],k=>by rw [Iy];exact KA _ _ _
 | x::a,y::b,k=>by
  rw [HJ]
  split
  ·rw [Ci,if_neg (by omega),if_neg (by simp only [List.length_cons];omega)];have:=G2 a b (k+1);rw [show k+(y::b).length=k+1+b.length by simp only [List.length_cons];omega];rw [show (((k+1:Nat):Int) - 1)=(k:Int) by omega] at this;exact this
  split
  ·rw [Ci,if_pos rfl];exact G2 a (y::b) k
  ·have:=G2 (x::a) b (k+1);rw [show k+(y::b).length=k+1+b.length by simp only [List.length_cons];omega];exact IW this (by omega)
 termination_by a b _=>a.length+b.length
theorem Kp {new:Int}:∀{l:List Int} {last:Int},Ci new last l=true→Cp new l≤new
 | [],_,_=>Int.le_refl _
 | z::r,last,h=>by
  rw [Ci] at h;rw [Cp]
  split at h
  ·rename_i e;rw [if_neg (by omega)];exact Kp h
  ·split at h
   ·cases h
   ·rename_i e1 e2
    split
    ·omega
    ·exact Kp h
theorem IX {new f:Int}:∀{l:List Int} {last:Int},-1≤last→Ci new last l=true→last≤f→f<Cp new l→Ci new f l=true
 | [],_,_,_,_,_=>rfl
 | z::r,last,h0,h,hl,hf=>by
  rw [Ci] at h ⊢;rw [Cp] at hf
  split at h
  ·rename_i e;rw [if_neg (by omega)] at hf;rw [if_pos e];exact IX h0 h hl hf
  ·rename_i e;rw [if_neg e]
   split at h
   ·cases h
   ·rw [if_pos (by omega)] at hf;rw [if_neg (by omega)];exact h
theorem Gz {new:Int}:∀{l:List Int} {free:Int},0≤free→Ci new (free - 1) l=true→Ci new (free - 1) (Dx new free l)=true
 | [],_,_,_=>rfl
 | k::r,free,h0,h=>by
  rw [Ci] at h;rw [Dx];by_cases e:k=-1
  ·rw [if_pos e] at h;rw [if_neg (by omega)];by_cases hn:free<Cp new r
   ·rw [if_pos hn,Ci,if_neg (by omega),if_neg (by have:=Kp h;omega)];have h2:=IX (f:=free) (by omega) h (by omega) hn;have:=Gz (free:=free+1) (l:=r) (by omega) (by rw [show free+1 - 1=free by omega];exact h2)
    rwa [show free+1 - 1=free by omega] at this
   ·rw [if_neg hn,Ci,if_pos rfl];exact Gz h0 h
  ·rw [if_neg e] at h
   split at h
   ·cases h
   ·rename_i hc;rw [if_pos (by omega),Ci,if_neg e,if_neg hc];have:=Gz (free:=k+1) (l:=r) (by omega) (by rw [show k+1 - 1=k by omega];exact h)
    rwa [show k+1 - 1=k by omega] at this
theorem Hn (a b:List α) (ha:a.length≤1048576) (hb:b.length≤1048576):KV ⟨B8 a b,b.length⟩=true:=by
 have h1:Ci (b.length:Int) (-1) (B8 a b)=true:=by
  rw [B8,Pb];have:=G2 a b 0;simp only [Nat.zero_add] at this;exact Gz (free:=0) (Int.le_refl _) this
 simp [KV,h1,Gc];omega
end
def AH (a b:Aj):BQ:={sheet:=a.name,rows:=⟨BM a b,b.rows.length⟩,cols:=⟨EO a b (BM a b),((b.cols.toNat:Nat):Int)⟩,gone:=false}
theorem Py {a b:Aj} (ha:BX a=true) (hb:BX b=true):(AH a b).May:=by
 have key:∀s:Aj,BX s=true→s.rows.length≤24∧s.cols≤12:=λs h=>by
  simp only [BX,Bool.and_eq_true,decide_eq_true_eq] at h;omega
 obtain ⟨a1,a2⟩:=key a ha;obtain ⟨b1,b2⟩:=key b hb;refine ⟨?_,?_⟩
 ·have:=Hn (a.rows.map Cg) (b.rows.map Cg) (by simp;omega) (by simp;omega)
  simpa [AH,BM] using this
 ·have:=Hn (A8 a ((Bs a b (BM a b)).map Prod.fst)) (A8 b ((Bs a b (BM a b)).map Prod.snd)) (by simp [A8];omega) (by simp [A8];omega)
  simpa [AH,EO,A8] using this
abbrev Ar:=List (List (List (List UInt8)))
def A0 (p c:Ah):List BQ:=p.map λs=>match Ly c s.name with
 | none=>⟨s.name,⟨[],0⟩,⟨[],0⟩,true⟩
 | some k=>match c[k]? with
  | none=>⟨s.name,⟨[],0⟩,⟨[],0⟩,true⟩
  | some u=>AH s u
def FI (b:Ah) (id:List UInt8):Ar:=b.map λs=>s.rows.map λr=>r.map λ_=>id
def Jj (t:Ar) (k x y:Nat) (v:List UInt8):Ar:=t.modify k λrows=>rows.modify x λr=>r.set y v
def JR (t:Ar) (k x y:Nat):List UInt8:=((t.getD k []).getD x []).getD y []
noncomputable def GP (c:Ah) (ss:List BQ) (had:Ar) (i k:Nat) (nm:List UInt8) (sh:BQ) (r q:Nat) (text:List UInt8) (t:Ar):Ar:=
 let x:=A9 sh.rows r
 let y:=A9 sh.cols q
 if 0≤x∧0≤y∧EZ (c.getD k ⟨[],0,[]⟩) x y=Ct nm ss text then Jj t k x.toNat y.toNat (JR had i r q) else t
noncomputable def Dy (c:Ah) (ss:List BQ) (had:Ar) (i k:Nat) (nm:List UInt8) (sh:BQ) (r:Nat) (row:List (List UInt8)) (n:Nat) (t:Ar):Ar:=
 (List.range n).foldl (λt q=>GP c ss had i k nm sh r q (row.getD q []) t) t
noncomputable def DY (c:Ah) (ss:List BQ) (had:Ar) (i k:Nat) (s:Aj) (sh:BQ) (n:Nat) (t:Ar):Ar:=
 (List.range n).foldl (λt r=>Dy c ss had i k s.name sh r (s.rows.getD r []) (s.rows.getD r []).length t) t
noncomputable def CX (p c:Ah) (had:Ar) (n:Nat) (t:Ar):Ar:=
 (List.range n).foldl (λt i=>let s:=p.getD i ⟨[],0,[]⟩;match Ly c s.name with
  | none=>t
  | some k=>DY c (A0 p c) had i k s ((A0 p c).getD i ⟨[],⟨[],0⟩,⟨[],0⟩,true⟩) s.rows.length t) t
noncomputable def Fq (p c:Ah) (id:List UInt8) (had:Ar):Ar:=CX p c had p.length (FI c id)
noncomputable def Ev:List (List UInt8×Ah)→Ar
 | []=>[]
 | (id,b)::r=>(r.foldl (λ(st:Ah×Ar) x=>(x.2,Fq st.1 x.2 x.1 st.2)) (b,FI b id)).2
def CM (t:Ar) (b:Ah):Prop:=t.map (λrows=>rows.map List.length)=b.map λs=>s.rows.map List.length
theorem Io (b:Ah) (id:List UInt8):CM (FI b id) b:=by
 simp only [CM,FI,List.map_map];apply List.map_congr_left;intro s _;simp only [Function.comp,List.map_map];apply List.map_congr_left;intro r _;simp
theorem Pm (t:Ar) (k x y:Nat) (v:List UInt8):(Jj t k x y v).map (λrows=>rows.map List.length)=t.map λrows=>rows.map List.length:=by
 apply List.ext_getElem?;intro i;simp only [Jj,List.getElem?_map,List.getElem?_modify]
 cases h:t[i]? with
 | none=>rfl
 | some rows=>
  by_cases e:k=i
  ·simp only [e,if_true];show some ((rows.modify x λr=>r.set y v).map List.length)=some (rows.map List.length)
   congr 1
   apply List.ext_getElem?;intro j;simp only [List.getElem?_map,List.getElem?_modify]
   cases rows[j]? with
   | none=>rfl
   | some r=>by_cases e:x=j<;>simp [e]
  ·simp [e]
theorem CR {β:Type} {P:Ar→Prop} {f:Ar→β→Ar} (hf:∀t x,P t→P (f t x)):∀(l:List β) (t:Ar),P t→P (l.foldl f t)
 | [],_,h=>h
 | x::r,t,h=>CR hf r _ (hf t x h)
theorem JV {c:Ah} {ss:List BQ} {had:Ar} {i k:Nat} {nm:List UInt8} {sh:BQ} {r q:Nat} {text:List UInt8} {t:Ar} {b:Ah} (h:CM t b):CM (GP c ss had i k nm sh r q text t) b:=by
 unfold GP;simp only
 split
 ·unfold CM at h ⊢;rw [Pm];exact h
 ·exact h
theorem KI (p c:Ah) (id:List UInt8) (had:Ar):CM (Fq p c id had) c:=by
 unfold Fq CX;refine CR (P:=λt=>CM t c) (λt i h=>?_) _ _ (Io c id);simp only
 split
 ·exact h
 ·exact CR (P:=λt=>CM t c) (λt r h=>CR (P:=λt=>CM t c) (λt q h=>JV h) _ _ h) _ _ h
def CD (new:Int):List Int→List Int
 | []=>[]
 | k::r=>(if 0≤k then k else -1 - Cp new r)::CD new r
theorem Iv (new:Int):∀l:List Int,(CD new l).length=l.length
 | []=>rfl
 | _::r=>by simp [CD,Iv new r]
theorem IP {new M:Int} (h0:0≤new) (h1:new≤M):∀{l:List Int},(∀z∈l,z≤M)→0≤Cp new l∧Cp new l≤M
 | [],_=>⟨h0,h1⟩
 | k::r,h=>by
  unfold Cp
  split
  ·exact ⟨by assumption,h k (by simp)⟩
  ·exact IP h0 h1 λz hz=>h z (by simp [hz])
theorem FR {l:List Int} {j:Nat} {z:Int} (h:l[j]?=some z):l.drop j=z::l.drop (j+1):=by
 obtain ⟨hj,rfl⟩:=List.getElem?_eq_some_iff.1 h;exact List.drop_eq_getElem_cons hj
def EV (new:Int) (l:List Int) (i:Nat):List Int:=l.take i++CD new (l.drop i)
theorem QE (new:Int) (l:List Int):EV new l l.length=l:=by simp [EV,CD]
theorem OB (new:Int) (l:List Int):EV new l 0=CD new l:=by simp [EV]
theorem TF {l:List Int} {j:Nat} {z:Int} (h:l[j]?=some z):l.take (j+1)=l.take j++[z]:=by rw [List.take_add_one,h];rfl
theorem O9 {new:Int} {l:List Int} {i:Nat} {z:Int} (h:l[i]?=some z) (hz:0≤z):EV new l i=EV new l (i+1)∧Cp new (l.drop i)=z:=by
 rw [EV,EV,FR h,TF h,CD,if_pos hz,List.append_assoc];exact ⟨rfl,by rw [Cp,if_pos hz]⟩
theorem OA {new:Int} {l:List Int} {i:Nat} {z:Int} (h:l[i]?=some z) (hz:¬0≤z):(EV new l (i+1)).set i (-1 - Cp new (l.drop (i+1)))=EV new l i∧Cp new (l.drop i)=Cp new (l.drop (i+1)):=by
 have hi:=(List.getElem?_eq_some_iff.1 h).1;rw [EV,EV,FR h,TF h,CD,if_neg hz,List.append_assoc,List.set_append_right _ _ (by rw [List.length_take];omega),List.length_take,Nat.min_eq_left (by omega),Nat.sub_self];exact ⟨rfl,by rw [Cp,if_neg hz]⟩
structure GS (new:Int) (l:List Int) (j:Nat) (done:List Int) (free:Int):Prop where
 len:done.length=j
 done:done++Dx new free (l.drop j)=Dx new 0 l
 free0:0≤free
theorem GS.start (new:Int) (l:List Int):GS new l 0 [] 0:=⟨rfl,by simp,by omega⟩
theorem GS.kept {new:Int} {l:List Int} {j:Nat} {done:List Int} {free z:Int} (h:GS new l j done free) (hz:l[j]?=some z) (h0:0≤z):GS new l (j+1) (done++[z]) (z+1):=
 ⟨by simp [h.len],by rw [←h.done,FR hz,Dx,if_pos h0];simp,by omega⟩
theorem GS.fill {new:Int} {l:List Int} {j:Nat} {done:List Int} {free z:Int} (h:GS new l j done free) (hz:l[j]?=some z) (h0:¬0≤z) (hf:free<Cp new (l.drop (j+1))):GS new l (j+1) (done++[free]) (free+1):=
 ⟨by simp [h.len],by rw [←h.done,FR hz,Dx,if_neg h0,if_pos hf];simp,by have:=h.free0;omega⟩
theorem GS.gone {new:Int} {l:List Int} {j:Nat} {done:List Int} {free z:Int} (h:GS new l j done free) (hz:l[j]?=some z) (h0:¬0≤z) (hf:¬free<Cp new (l.drop (j+1))):GS new l (j+1) (done++[-1]) free:=
 ⟨by simp [h.len],by rw [←h.done,FR hz,Dx,if_neg h0,if_neg hf];simp,h.free0⟩
theorem GS.all {new:Int} {l:List Int} {done:List Int} {free:Int} (h:GS new l l.length done free):done=Dx new 0 l:=by
 rw [←h.done];simp [Dx]
theorem QX {new:Int} {l:List Int} {j:Nat} {z x:Int} {done:List Int} (hl:done.length=j) (hz:l[j]?=some z):(done++CD new (l.drop j)).set j x=(done++[x])++CD new (l.drop (j+1)):=by
 rw [FR hz,CD,List.set_append_right _ _ (by omega),hl,Nat.sub_self];simp
theorem Uj {new:Int} {l:List Int} {j:Nat} {z:Int} {done:List Int} (hl:done.length=j) (hz:l[j]?=some z):(done++CD new (l.drop j))[j]?=some (if 0≤z then z else -1 - Cp new (l.drop (j+1))):=by
 rw [FR hz,CD,List.getElem?_append_right (by omega),hl,Nat.sub_self];rfl
theorem SI {new:Int} {l:List Int} {j:Nat} {z:Int} {done:List Int} (hz:l[j]?=some z) (h0:0≤z):done++CD new (l.drop j)=(done++[z])++CD new (l.drop (j+1)):=by
 rw [FR hz,CD,if_pos h0];simp
abbrev De (lo:Nat) (w:World) (v:Value) (l:List UInt8):Prop:=Ay w lo 5 1 v l.length (A5 l)
theorem Nb (l:List UInt8):(A5 l).length=l.length:=by simp [A5]
theorem GU (l m:List UInt8):A5 (l++m)=A5 l++A5 m:=by simp [A5]
theorem OD (l:List UInt8):∀u∈A5 l,u.oneCell'=true:=λu hu=>by
 simp only [A5,List.mem_map] at hu;obtain ⟨b,_,rfl⟩:=hu;rfl
theorem Vw:∀k,k<256→bits .or .u8 ((k:Nat):Int) 128=((k % 128+128:Nat):Int):=by decide +kernel
theorem VM (m:Nat):bits .or .u8 ((UInt8.ofNat m).toNat:Int) 128=((UInt8.ofNat (m % 128+128)).toNat:Int):=by
 have e:(UInt8.ofNat m).toNat=m % 256:=by simp
 rw [e,Vw _ (Nat.mod_lt _ (by decide)),Ii (by omega)]
 congr 1
 omega
theorem NX:∀(k n:Nat),0<k→n<128 ^ k→(CS n).length≤k
 | 0,_,h,_=>by omega
 | k+1,n,_,h=>by
  by_cases h1:n<128
  ·rw [F6 h1];simp
  ·have hk:0<k:=by
    rcases Nat.eq_zero_or_pos k with e | e
    ·subst e;simp at h;omega
    ·exact e
   rw [HT (by omega),List.length_cons];have:=NX k (n / 128) hk (by rw [Nat.pow_succ] at h;omega);omega
theorem DD {n:Nat} (h:n≤9223372036854775807):(CS n).length≤10:=NX 10 n (by decide) (Nat.lt_of_le_of_lt h (by decide))
theorem NY {s:List UInt8} (h:s.length≤1000000):(DW s).length≤1000010:=by
 have:=DD (n:=s.length) (by omega);rw [DW,List.length_append];omega
theorem Ja:∀{l:List (List UInt8)},(∀s∈l,s.length≤1000000)→(l.flatMap DW).length≤l.length*1000010
 | [],_=>by simp
 | s::l,h=>by
  have:=Ja (l:=l) λu hu=>h u (List.mem_cons_of_mem _ hu);have:=NY (h s (List.mem_cons_self ..));rw [List.flatMap_cons,List.length_append,List.length_cons,Nat.add_mul];omega
set_option maxRecDepth 8000 in
theorem P6 (n:Nat) (hn:n≤9223372036854775807) (w:World):AL Tryz.prog 177 [.int .i64 (n:Int)] w (λv w'=>De w.heap.size w' v (CS n)∧Ag w w'):=by
 refine Br Tryz.func177 Tryz.ntmps177 ?_;refine Su ?_;refine CW.loop (ι:=Nat×List UInt8×Value) (λx w'=>x.2.1++CS x.1=CS n∧x.1≤n∧Ag w w'∧Ay w' w.heap.size 5 1 x.2.2 x.2.1.length (A5 x.2.1)) (λx=>[(0,.int .i64 x.1),(3,x.2.2)]) (λx=>x.1) (n,[],.slice none 0 0) ⟨rfl,Nat.le_refl _,Chg.refl _ _,Ay.nil _ _ _ _⟩ Ml ?_;rintro ⟨m,out,ov⟩ w1 ⟨a2,a5,a3,hO⟩;dsimp only at a2 a5 hO;show CW _ _ _ _ _ [(0,.int .i64 (m:Int)),(3,ov)] _;have a8:out.length≤10:=by
  have:=congrArg List.length a2;rw [List.length_append] at this;have:=DD hn;omega
 refine Su ?_;refine A4 (λh1=>?_) λh1=>?_
 ·have h1:128≤m:=by simp at h1;omega
  refine Su ?_;refine LW.val rfl rfl rfl (Y.low (m:=m) rfl rfl rfl rfl rfl) ?_;refine LW.bits (z:=((UInt8.ofNat (m % 128+128)).toNat:Int)) rfl rfl rfl (VM m) rfl ?_;refine DG λB w2 a6 a0 hB=>?_;refine LW.append (lo:=w.heap.size) (k:=out.length) rfl rfl rfl rfl rfl rfl (hO.ext a0) (by have:=a3.size;have:=a0.size;omega) hB rfl rfl rfl (by show (out.length+1)*2≤_;omega) rfl ?_;intro v3 w3 a4 a1 a7;replace a1:Ay w3 w.heap.size 5 1 v3 (out.length+1) (A5 out++A5 [UInt8.ofNat (m % 128+128)]):=a1;rw [←GU] at a1;refine Su ?_;refine LW.shr (m:=7) (z:=((m / 128:Nat):Int)) rfl rfl (by decide) (by rw [show (2:Int) ^ 7=128 by decide];omega) rfl ?_;refine Su ?_;exact QW.again (m / 128,out++[UInt8.ofNat (m % 128+128)],v3) ⟨by
   rw [←a2,HT (n:=m) h1];simp,by show m / 128≤n;omega,(a3.trans a0).step a4 (λb hb=>by have:=(hO.lt hb).1;omega),by
   show Ay _ _ _ _ v3 (out++[UInt8.ofNat (m % 128+128)]).length _;rw [List.length_append];exact a1⟩ Ml (by show m / 128<m;omega)
 have h1:m<128:=by simp at h1;omega
 refine Su ?_;refine DG λB w2 a6 a0 hB=>?_;replace hB:Blk w2 B (A5 [UInt8.ofNat m]) 5:=by
  have e:(m:Int)=((UInt8.ofNat m).toNat:Int):=by rw [Ii (by omega)]
  rw [e] at hB;exact hB
 refine LW.append (lo:=w.heap.size) (k:=out.length) rfl rfl rfl rfl rfl rfl (hO.ext a0) (by have:=a3.size;have:=a0.size;omega) hB rfl rfl rfl (by show (out.length+1)*2≤_;omega) rfl ?_;intro v3 w3 a4 a1 a7;rw [←GU] at a1;refine Su ?_;refine QW.body1 Tryz.results177 rfl ⟨?_,(a3.trans a0).step a4 (λb hb=>by have:=(hO.lt hb).1;omega)⟩;rw [←a2,F6 h1];show Ay _ _ _ _ v3 (out++[UInt8.ofNat m]).length _;rw [List.length_append];exact a1
theorem De.app {lo:Nat} {w:World} {v:Value} {l m:List UInt8} (h:Ay w lo 5 1 v (l.length+m.length) (A5 l++A5 m)):De lo w v (l++m):=by
 show Ay _ _ _ _ v (l++m).length _;rw [List.length_append,GU];exact h
theorem De.bytes' {lo:Nat} {w:World} {p:Option Addr} {c:Nat} {l:List UInt8} (h:De lo w (.slice p l.length c) l):p=none∧l.length=0∨∃a,p=some a∧∀j u,(A5 l)[j]?=some u→w.cell? (a.add j)=some u:=by
 obtain ⟨hx,⟨e,e2⟩ | ⟨g,cap,sp,e,hB,h1,h2,h3⟩⟩:=h
 ·simp only [Value.slice.injEq] at e;exact .inl ⟨e.1,e2⟩
 ·simp only [Value.slice.injEq] at e;refine .inr ⟨_,e.1,λj u hj=>?_⟩;rw [Ao];refine hB.cell ?_;rw [Nat.zero_add,List.getElem?_append_left (List.getElem?_eq_some_iff.1 hj).1];exact hj
theorem MN (s:List UInt8) (hs:s.length≤1000000) (w:World):AL Tryz.prog 178 [Ap s] w (λv w'=>De w.heap.size w' v (DW s)∧Ag w w'):=by
 refine Br Tryz.func178 Tryz.ntmps178 ?_;refine Su ?_;refine AE rfl rfl (P6 s.length (by omega) w) ?_;rintro v w1 ⟨hO,a0⟩;obtain ⟨p,c,rfl⟩:=hO.slice;have:=DD (n:=s.length) (by omega);refine Su ?_;refine LW.append_str (k:=(CS s.length).length) (xs:=A5 (CS s.length)) (s:=s) rfl rfl rfl rfl rfl rfl rfl rfl rfl hO a0.size (by show ((CS s.length).length+s.length)*2≤_;omega) rfl ?_;intro v2 w2 a1 a2 a3;refine Su ?_;exact QW.body1 Tryz.results178 rfl ⟨De.app a2,a0.step a1 (λb hb=>by have:=(hO.lt hb).1;omega)⟩
theorem P1 {ok:Addr→Prop} {w:World} {v:Value} {l:List (List UInt8)} (h:Au ok w v l):∀s∈l,s.length≤1000000:=λs hs=>by
 obtain ⟨i,hi⟩:=List.getElem?_of_mem hs;obtain ⟨p,c,rfl⟩:=h.slice;exact (Au.at h hi).choose_spec.2.2.1
theorem R6 {l:List (List UInt8)} (h:∀s∈l,s.length≤1000000) (hl:l.length≤1000000) (k:Nat):(CS l.length++(l.take k).flatMap DW).length≤10+1000000*1000010:=by
 have h1:=DD (n:=l.length) (by omega);have h2:=Ja (l:=l.take k) λs hs=>h s (List.mem_of_mem_take hs);have h3:(l.take k).length*1000010≤1000000*1000010:=Nat.mul_le_mul_right _ (by rw [List.length_take];omega);rw [List.length_append];omega
theorem ID (l:List (List UInt8)) (tv:Value) (w:World) (h:Dg w tv l):AL Tryz.prog 132 [tv] w (λv w'=>De w.heap.size w' v (DV l)∧Ag w w'):=by
 obtain ⟨p,c,rfl⟩:=h.slice;have hl:=h.1;have hs:=P1 h;refine Br Tryz.func132 Tryz.ntmps132 ?_;refine Su ?_;refine AE rfl rfl (P6 l.length (by omega) w) ?_;rintro v w1 ⟨hO,a6⟩;refine Su ?_;refine CW.loop (ι:=Nat×Value) (λx w'=>x.1≤l.length∧Ag w w'∧De w.heap.size w' x.2 (CS l.length++(l.take x.1).flatMap DW)) (λx=>[(3,x.2),(9,.slice p l.length c),(10,.int .i64 l.length),(11,.int .i64 x.1)]) (λx=>l.length - x.1) (0,v) ⟨by omega,a6,by rw [List.take_zero,List.flatMap_nil,List.append_nil];exact hO⟩ BU ?_;rintro ⟨k,ov⟩ w2 ⟨hk,a1,a0⟩;dsimp only at hk a0;show CW _ _ _ _ _ [(3,ov),(9,.slice p l.length c),(10,.int .i64 l.length),(11,.int .i64 (k:Int))] _;refine Su ?_;refine A4 (λh1=>?_) λh1=>?_;rotate_left
 ·have h1:k=l.length:=by simp at h1;omega
  subst h1;refine Su ?_;refine QW.body1 Tryz.results132 rfl ⟨?_,a1⟩;rw [List.take_length] at a0;exact a0
 have h1:k<l.length:=by simp at h1;omega
 obtain ⟨s,a3⟩:∃s,l[k]?=some s:=⟨_,List.getElem?_eq_getElem h1⟩;obtain ⟨a,rfl,-,a4,hc⟩:=Au.at (Au.ext h a1) a3;refine Su ?_;refine AE rfl rfl (MN s a4 w2) ?_;rintro u w3 ⟨a5,a2⟩;obtain ⟨pu,cu,rfl⟩:=a5.slice;have hb:=R6 hs hl k;have ht:=NY a4;have hq:=(De.bytes' a5);refine Su ?_;refine LW.append_any (lo:=w.heap.size) (k:=(CS l.length++(l.take k).flatMap DW).length) (xs:=A5 (CS l.length++(l.take k).flatMap DW)) (news:=A5 (DW s)) rfl rfl rfl rfl rfl rfl (a0.ext a2) (by have:=a1.size;have:=a2.size;omega) (by rw [Nb];show _=_*1;omega) hq (OD _) (by show (_+(DW s).length)*2≤_;omega) rfl ?_;intro v4 w4 a7 a8 a9;refine Su ?_;exact QW.again (k+1,v4) ⟨h1,(a1.trans a2).step a7 (λb hb=>by have:=(a0.lt hb).1;omega),by
  have:=De.app a8;rw [List.append_assoc] at this;show De _ _ v4 (CS l.length++(l.take (k+1)).flatMap DW);rw [List.take_add_one,a3,List.flatMap_append]
  simpa using this⟩ BU (by show l.length - (k+1)<l.length - k;omega)
end Go.Proofs.YtefaigjfkddelaaGreatDoor
