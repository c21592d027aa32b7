/-
  Joined by program out of the texts BookP BookL BookW PasP PasQ PasW CodeP AliP AliQ BlaP FillP Byt Code1 Code2.
-/
import Derived.Test.YtefaigjfkddelaaGreatDoorRkG
import Derived.Test.YtefaigjfkddelaaGreatDoorRkE
import Derived.Test.YtefaigjfkddelaaGreatDoorRkI
import Derived.Test.YtefaigjfkddelaaGreatDoorRkH
import Derived.Test.YtefaigjfkddelaaGreatDoorRkB
import Derived.Lib.EndianBits
namespace Go.Proofs.YtefaigjfkddelaaGreatDoor
open Go Go.E
structure Aq where
 name:List UInt8
 cols:Int
 rows:List (List (List UInt8))
deriving DecidableEq
abbrev A1:=List Aq
def N5 (b:A1) (nm:List UInt8):Option Nat:=b.findIdx? (λs=>decide (s.name=nm))
def Ro:Option Nat→Int
 | some i=>i
 | none=>-1
def Jk (s:Aq) (row col:Int):List UInt8:=(s.rows.getD row.toNat []).getD col.toNat []
theorem Jg {b:A1} {nm:List UInt8} {i:Nat} (h:N5 b nm=some i):∃s,b[i]?=some s∧s.name=nm:=by
 unfold N5 at h;rw [List.findIdx?_eq_some_iff_getElem] at h;obtain ⟨a0,e,_⟩:=h;exact ⟨b[i],List.getElem?_eq_getElem a0,by simpa using e⟩
theorem Pj {b:A1} {x:List UInt8} (h:∀i s,i<b.length→b[i]?=some s→s.name≠x):N5 b x=none:=by
 unfold N5;rw [List.findIdx?_eq_none_iff];intro s hs;obtain ⟨i,hi,rfl⟩:=List.getElem_of_mem hs;have:=h i _ hi (List.getElem?_eq_getElem hi)
 simpa using this
theorem U2 {b:A1} {x:List UInt8} {k:Nat} {s:Aq} (hk:b[k]?=some s) (hs:s.name=x) (h:∀i u,i<k→b[i]?=some u→u.name≠x):N5 b x=some k:=by
 unfold N5;rw [List.findIdx?_eq_some_iff_getElem];obtain ⟨a0,e⟩:=List.getElem?_eq_some_iff.1 hk;refine ⟨a0,by rw [e];simpa using hs,λj hj=>?_⟩;have:=h j _ hj (List.getElem?_eq_getElem (by omega))
 simpa using this
noncomputable def CG (s:Aq):Bool:=DJ s.name&&decide (0≤s.cols)&&decide (s.cols≤12)&&decide (s.rows.length≤24)&&s.rows.all λr=>decide ((r.length:Int)=s.cols)&&r.all Cv
noncomputable def Gs:Option (List UInt8)→A1→Bool
 | _,[]=>true
 | p,s::r=>(match p with | none=>true | some q=>Op.bytesLess q s.name)&&CG s&&Gs (some s.name) r
noncomputable def Bu (b:A1):Bool:=decide (b.length≤5)&&Gs none b
def Ud (s:Aq) (row col:Nat) (t:List UInt8):Aq:={s with rows:=s.rows.modify row λr=>r.set col t}
def Nx (b:A1) (i row col:Nat) (t:List UInt8):A1:=b.modify i λs=>Ud s row col t
def WE:Ft (List UInt8):=λ_ _ cs s=>cs=[Aj s]∧s.length≤1000000
abbrev Av (ok:Addr→Prop):World→Value→List (List UInt8)→Prop:=Az 1 ok WE
def X1 (okT:Nat→Addr→Prop):Ft (List (List UInt8)):=λi w cs r=>∃v,cs=[v]∧Av (okT i) w v r
abbrev AJ (okR:Addr→Prop) (okT:Nat→Addr→Prop):World→Value→List (List (List UInt8))→Prop:=Az 1 okR (X1 okT)
def AB (s:Aq) (rv:Value):List Value:=[Aj s.name,.int .i64 s.cols,rv]
def WY (okR:Nat→Addr→Prop) (okT:Nat→Nat→Addr→Prop):Ft Aq:=λi w cs s=>∃rv,cs=AB s rv∧s.name.length≤1000000∧AJ (okR i) (okT i) w rv s.rows
abbrev Ak (okS:Addr→Prop) (okR:Nat→Addr→Prop) (okT:Nat→Nat→Addr→Prop):World→Value→A1→Prop:=Az 3 okS (WY okR okT)
abbrev JT:Addr→Prop:=λ_=>True
abbrev BE:=Av JT
abbrev Dx:=AJ JT (λ_=>JT)
abbrev Cs:=Ak JT (λ_=>JT) (λ_ _=>JT)
theorem Av.chg {S:List Nat} {ok:Addr→Prop} {w w':World} {v:Value} {l:List (List UInt8)} (h:Av ok w v l) (x:Chg S w w') (hs:l≠[]→∀a,ok a→a.block∉S):Av ok w' v l:=Az.chg h x hs λ_ _ _ _ h=>h
theorem AJ.chg {S:List Nat} {okR:Addr→Prop} {okT:Nat→Addr→Prop} {w w':World} {v:Value} {l:List (List (List UInt8))} (h:AJ okR okT w v l) (x:Chg S w w') (hs:∀a,okR a→a.block∉S) (ht:∀i x a,l[i]?=some x→x≠[]→okT i a→a.block∉S):AJ okR okT w' v l:=
 Az.chg h x (λ_=>hs) λi y _ hi ⟨v,h1,h2⟩=>⟨v,h1,h2.chg x (λhn a ha=>ht i y a hi hn ha)⟩
theorem Ak.chg {S:List Nat} {okS:Addr→Prop} {okR:Nat→Addr→Prop} {okT:Nat→Nat→Addr→Prop} {w w':World} {v:Value} {l:A1} (h:Ak okS okR okT w v l) (x:Chg S w w') (hs:∀a,okS a→a.block∉S) (hr:∀i a,i<l.length→okR i a→a.block∉S) (ht:∀i s r y a,l[i]?=some s→s.rows[r]?=some y→y≠[]→okT i r a→a.block∉S):Ak okS okR okT w' v l:=
 Az.chg h x (λ_=>hs) λi s _ hi ⟨v,h1,h2,h3⟩=>⟨v,h1,h2,h3.chg x (λa ha=>hr i a (List.getElem?_eq_some_iff.1 hi).1 ha) (λr y a hr hn ha=>ht i s r y a hi hr hn ha)⟩
theorem Av.ext {ok:Addr→Prop} {w w':World} {v:Value} {l:List (List UInt8)} (h:Av ok w v l) (x:Ae w w'):Av ok w' v l:=Av.chg h x (by simp)
theorem AJ.ext {okR:Addr→Prop} {okT:Nat→Addr→Prop} {w w':World} {v:Value} {l:List (List (List UInt8))} (h:AJ okR okT w v l) (x:Ae w w'):AJ okR okT w' v l:=AJ.chg h x (by simp) (by simp)
theorem Ak.ext {okS:Addr→Prop} {okR:Nat→Addr→Prop} {okT:Nat→Nat→Addr→Prop} {w w':World} {v:Value} {l:A1} (h:Ak okS okR okT w v l) (x:Ae w w'):Ak okS okR okT w' v l:=Ak.chg h x (by simp) (by simp) (by simp)
theorem AJ.of {okR:Addr→Prop} {okT:Nat→Addr→Prop} {w:World} {v:Value} {l:List (List (List UInt8))} (h:AJ okR okT w v l):Dx w v l:=
 Az.map h (λ_ _=>trivial) λ_ _ _ _ ⟨v,h1,h2⟩=>⟨v,h1,Az.map h2 (λ_ _=>trivial) λ_ _ _ _ h=>h⟩
theorem Av.at {ok:Addr→Prop} {w:World} {p:Option Addr} {c:Nat} {l:List (List UInt8)} (h:Av ok w (.slice p l.length c) l) {i:Nat} {s:List UInt8} (hi:l[i]?=some s):∃a,p=some a∧ok a∧s.length≤1000000∧w.cell? (a.add (((i:Nat):Int).toNat*1))=some (Aj s):=by
 obtain ⟨a,u,h1,h2,⟨h3,h4⟩,h5⟩:=h.at1 hi;simp only [List.cons.injEq,and_true] at h3;subst h3;exact ⟨a,h1,h2,h4,h5⟩
theorem AJ.at {okR:Addr→Prop} {okT:Nat→Addr→Prop} {w:World} {p:Option Addr} {c:Nat} {l:List (List (List UInt8))} (h:AJ okR okT w (.slice p l.length c) l) {i:Nat} {r:List (List UInt8)} (hi:l[i]?=some r):∃a q k,p=some a∧okR a∧Av (okT i) w (.slice q r.length k) r∧w.cell? (a.add (((i:Nat):Int).toNat*1))=some (.slice q r.length k):=by
 obtain ⟨a,u,h1,h2,⟨v,h3,h4⟩,h5⟩:=h.at1 hi;simp only [List.cons.injEq,and_true] at h3;subst h3;obtain ⟨q,k,rfl⟩:=h4.slice;exact ⟨a,q,k,h1,h2,h4,h5⟩
theorem Ak.at {okS:Addr→Prop} {okR:Nat→Addr→Prop} {okT:Nat→Nat→Addr→Prop} {w:World} {p:Option Addr} {c:Nat} {l:A1} (h:Ak okS okR okT w (.slice p l.length c) l) {i:Nat} {s:Aq} (hi:l[i]?=some s):∃a q k,p=some a∧okS a∧s.name.length≤1000000∧AJ (okR i) (okT i) w (.slice q s.rows.length k) s.rows∧∀j u,(AB s (.slice q s.rows.length k))[j]?=some u→w.cell? ((a.add (((i:Nat):Int).toNat*3)).add j)=some u:=by
 obtain ⟨a,cs,h1,h2,h3,⟨rv,rfl,h4,h5⟩,h6⟩:=Az.at h hi;obtain ⟨q,k,rfl⟩:=h5.slice;exact ⟨a,q,k,h1,h2,h4,h5,h6⟩
theorem Mt:∀{a b c:List UInt8},Op.bytesLess a b=true→Op.bytesLess b c=true→Op.bytesLess a c=true
 | [],b,[],h,k=>by cases b<;>simp [Op.bytesLess] at h k
 | [],_,_::_,_,_=>by simp [Op.bytesLess]
 | _::_,[],_,h,_=>by simp [Op.bytesLess] at h
 | _::_,_::_,[],_,k=>by simp [Op.bytesLess] at k
 | x::a,y::b,z::c,h,k=>by
  simp only [Op.bytesLess,Bool.or_eq_true,Bool.and_eq_true,decide_eq_true_eq,beq_iff_eq] at h k ⊢;rcases h with h | ⟨rfl,h⟩
  ·rcases k with k | ⟨rfl,k⟩
   ·exact .inl (UInt8.lt_trans h k)
   ·exact .inl h
  ·rcases k with k | ⟨rfl,k⟩
   ·exact .inl k
   ·exact .inr ⟨rfl,Mt h k⟩
theorem IG:∀{b:A1} {p:Option (List UInt8)},Gs p b=true→(∀s∈b,CG s=true∧∀q,p=some q→Op.bytesLess q s.name=true)∧b.Pairwise (λs u=>Op.bytesLess s.name u.name=true)
 | [],_,_=>⟨by simp,.nil⟩
 | s::r,p,h=>by
  simp only [Gs,Bool.and_eq_true] at h;obtain ⟨⟨h1,h2⟩,h3⟩:=h;obtain ⟨h4,h5⟩:=IG h3;refine ⟨λu hu=>?_,.cons (λu hu=>(h4 u hu).2 _ rfl) h5⟩;rcases List.mem_cons.1 hu with rfl | hu
  ·refine ⟨h2,λq hq=>?_⟩;subst hq;exact h1
  ·refine ⟨(h4 u hu).1,λq hq=>?_⟩;subst hq;exact Mt h1 ((h4 u hu).2 _ rfl)
theorem PN:∀{b:A1} {p:Option (List UInt8)},(∀s∈b,CG s=true∧∀q,p=some q→Op.bytesLess q s.name=true)→b.Pairwise (λs u=>Op.bytesLess s.name u.name=true)→Gs p b=true
 | [],_,_,_=>rfl
 | s::r,p,h,k=>by
  obtain ⟨k1,k2⟩:=List.pairwise_cons.1 k;simp only [Gs,Bool.and_eq_true];refine ⟨⟨?_,(h s (List.mem_cons_self ..)).1⟩,PN (λu hu=>⟨(h u (List.mem_cons_of_mem _ hu)).1,λq hq=>?_⟩) k2⟩
  ·cases p with
   | none=>rfl
   | some q=>exact (h s (List.mem_cons_self ..)).2 q rfl
  ·simp only [Option.some.injEq] at hq;rw [←hq];exact k1 u hu
theorem CM {b:A1}:Bu b=true↔b.length≤5∧(∀s∈b,CG s=true)∧b.Pairwise (λs u=>Op.bytesLess s.name u.name=true):=by
 unfold Bu;rw [Bool.and_eq_true,decide_eq_true_eq];constructor
 ·rintro ⟨h1,h2⟩;exact ⟨h1,λs hs=>((IG h2).1 s hs).1,(IG h2).2⟩
 ·rintro ⟨h1,h2,h3⟩;exact ⟨h1,PN (λs hs=>⟨h2 s hs,λq hq=>by cases hq⟩) h3⟩
theorem Vw (b:A1) (i row col:Nat) (t:List UInt8) (j:Nat):(Nx b i row col t)[j]?=if i=j then (b[j]?).map (λs=>Ud s row col t) else b[j]?:=by
 unfold Nx;rw [List.getElem?_modify]
 split<;>simp
def X6:Ft (List UInt8):=λ_ _ cs s=>cs=[Aj s]∧s.length≤9223372036854775807
abbrev FZ:World→Value→List (List UInt8)→Prop:=Az 1 JT X6
def XL:Ft (List (List UInt8)):=λ_ w cs r=>∃v,cs=[v]∧FZ w v r
abbrev Hq:World→Value→List (List (List UInt8))→Prop:=Az 1 JT XL
def Wr:Ft Aq:=λ_ w cs s=>∃rv,cs=AB s rv∧s.name.length≤1000000∧Hq w rv s.rows
abbrev EX:World→Value→A1→Prop:=Az 3 JT Wr
theorem FZ.ext {w w':World} {v:Value} {l:List (List UInt8)} (h:FZ w v l) (x:Ae w w'):FZ w' v l:=Az.ext' h x λ_ _ _ _ h=>h
theorem Hq.ext {w w':World} {v:Value} {l:List (List (List UInt8))} (h:Hq w v l) (x:Ae w w'):Hq w' v l:=Az.ext' h x λ_ _ _ _ ⟨v,e,h⟩=>⟨v,e,FZ.ext h x⟩
theorem EX.ext {w w':World} {v:Value} {l:A1} (h:EX w v l) (x:Ae w w'):EX w' v l:=Az.ext' h x λ_ _ _ _ ⟨rv,e,hn,h⟩=>⟨rv,e,hn,Hq.ext h x⟩
theorem FZ.at {w:World} {p:Option Addr} {c:Nat} {l:List (List UInt8)} (h:FZ w (.slice p l.length c) l) {i:Nat} {s:List UInt8} (hi:l[i]?=some s):∃a,p=some a∧JT a∧s.length≤9223372036854775807∧w.cell? (a.add (((i:Nat):Int).toNat*1))=some (Aj s):=by
 obtain ⟨a,u,h1,h2,⟨e,h3⟩,h4⟩:=Az.at1 h hi;obtain rfl:=(List.cons.inj e).1;exact ⟨a,h1,h2,h3,h4⟩
theorem Hq.at {w:World} {p:Option Addr} {c:Nat} {l:List (List (List UInt8))} (h:Hq w (.slice p l.length c) l) {i:Nat} {r:List (List UInt8)} (hi:l[i]?=some r):∃a q k,p=some a∧JT a∧FZ w (.slice q r.length k) r∧w.cell? (a.add (((i:Nat):Int).toNat*1))=some (.slice q r.length k):=by
 obtain ⟨a,u,h1,h2,⟨u',e,h3⟩,h4⟩:=Az.at1 h hi;obtain rfl:=(List.cons.inj e).1;obtain ⟨q,k,rfl⟩:=Az.slice h3;exact ⟨a,q,k,h1,h2,h3,h4⟩
theorem EX.at {w:World} {p:Option Addr} {c:Nat} {l:A1} (h:EX w (.slice p l.length c) l) {i:Nat} {s:Aq} (hi:l[i]?=some s):∃a q k,p=some a∧JT a∧s.name.length≤1000000∧Hq w (.slice q s.rows.length k) s.rows∧∀j u,(AB s (.slice q s.rows.length k))[j]?=some u→w.cell? ((a.add (((i:Nat):Int).toNat*3)).add j)=some u:=by
 obtain ⟨a,cs,h1,h2,-,⟨rv,rfl,h3,h4⟩,h5⟩:=Az.at h hi;obtain ⟨q,k,rfl⟩:=Az.slice h4;exact ⟨a,q,k,h1,h2,h3,h4,h5⟩
theorem Av.loose {ok:Addr→Prop} {w:World} {v:Value} {l:List (List UInt8)} (h:Av ok w v l):FZ w v l:=Az.map h (λ_ _=>trivial) λ_ _ _ _ ⟨e,h⟩=>⟨e,by omega⟩
theorem AJ.loose {okR:Addr→Prop} {okT:Nat→Addr→Prop} {w:World} {v:Value} {l:List (List (List UInt8))} (h:AJ okR okT w v l):Hq w v l:=Az.map h (λ_ _=>trivial) λ_ _ _ _ ⟨v,e,h⟩=>⟨v,e,Av.loose h⟩
theorem Ak.loose {okS:Addr→Prop} {okR:Nat→Addr→Prop} {okT:Nat→Nat→Addr→Prop} {w:World} {v:Value} {l:A1} (h:Ak okS okR okT w v l):EX w v l:=Az.map h (λ_ _=>trivial) λ_ _ _ _ ⟨rv,e,hn,h⟩=>⟨rv,e,hn,AJ.loose h⟩
theorem PO {s:List UInt8} (h:Cv s=true):s.length≤300:=by
 unfold Cv at h
 split at h
 ·cases h
 ·omega
structure AV where
 id:List UInt8
 parents:List (List UInt8)
 book:A1
 note:List UInt8
abbrev AC:=List AV
def Ep:AC→List UInt8→Option Nat
 | [],_=>none
 | c::l,id=>if c.id=id then some 0 else (Ep l id).map (·+1)
theorem Gi:∀{l:AC} {id:List UInt8} {k:Nat},Ep l id=some k→∃c,l[k]?=some c∧c.id=id∧∀j d,j<k→l[j]?=some d→d.id≠id
 | [],_,_,h=>by cases h
 | c::l,id,k,h=>by
  rw [Ep] at h
  split at h
  ·rename_i e;obtain rfl:=Option.some.inj h;exact ⟨c,rfl,e,λj d hj=>absurd hj (Nat.not_lt_zero _)⟩
  ·rename_i e
   cases hg:Ep l id with
   | none=>rw [hg] at h;cases h
   | some n=>
    rw [hg] at h;obtain rfl:=Option.some.inj h;obtain ⟨d,h1,h2,h3⟩:=Gi hg;refine ⟨d,by simpa using h1,h2,λj u hj hu=>?_⟩
    cases j with
    | zero=>simp at hu;rw [←hu];exact e
    | succ j=>
     have hj':j+1<n+1:=hj;exact h3 j u (by omega) (by simpa using hu)
theorem Ga {l:AC} {id:List UInt8} {k:Nat} (h:Ep l id=some k):k<l.length:=by
 obtain ⟨c,h1,-⟩:=Gi h;exact (List.getElem?_eq_some_iff.1 h1).1
theorem Jh:∀{l:AC} {id:List UInt8},Ep l id=none→∀c∈l,c.id≠id
 | [],_,_=>by simp
 | c::l,id,h=>by
  rw [Ep] at h
  split at h
  ·cases h
  ·rename_i e;have h2:Ep l id=none:=by
    cases hg:Ep l id with
    | none=>rfl
    | some n=>rw [hg] at h;cases h
   intro d hd;rcases List.mem_cons.1 hd with rfl | hd
   ·exact e
   ·exact Jh h2 d hd
theorem LK:∀{l:AC} {id:List UInt8} {k:Nat} {c:AV},l[k]?=some c→c.id=id→(∀j d,j<k→l[j]?=some d→d.id≠id)→Ep l id=some k
 | [],_,_,_,h,_,_=>by simp at h
 | c::l,id,0,d,h,e,_=>by
  simp at h;subst h
  rw [Ep,if_pos e]
 | c::l,id,k+1,d,h,e,hn=>by
  rw [Ep,if_neg (hn 0 c (by omega) rfl),LK (k:=k) (by simpa using h) e λj u hj hu=>hn (j+1) u (by omega) (by simpa using hu)];rfl
theorem Pm {l:AC} {id:List UInt8} {n k:Nat} (h:Ep (l.take n) id=some k):Ep l id=some k∧k<n:=by
 obtain ⟨c,h1,h2,h3⟩:=Gi h;have hk:k<(l.take n).length:=(List.getElem?_eq_some_iff.1 h1).1;have a0:k<n:=by simp at hk;omega
 rw [List.getElem?_take_of_lt a0] at h1;exact ⟨LK h1 h2 λj d hj hd=>h3 j d hj (by rw [List.getElem?_take_of_lt (by omega)];exact hd),a0⟩
def Jz (l:AC) (i:Nat) (c:AV):Bool:=
 (Ep (l.take i) c.id).isNone&&decide (c.parents.length≤2)&&!(decide (c.parents.length=2)&&decide (c.parents[0]?=c.parents[1]?))&&c.parents.all λp=>(Ep (l.take i) p).isSome
def GK (l:AC):Bool:=(List.range l.length).all λi=>match l[i]? with
 | none=>true
 | some c=>Jz l i c
theorem Sy {l:AC} (h:GK l=true) {i:Nat} {c:AV} (hi:l[i]?=some c):Jz l i c=true:=by
 have h1:=List.all_eq_true.1 h i (List.mem_range.2 (List.getElem?_eq_some_iff.1 hi).1);rw [hi] at h1;exact h1
theorem Vc {l:AC} (h:GK l=true) {i:Nat} {c:AV} (hi:l[i]?=some c):Ep l c.id=some i:=by
 refine LK hi rfl λj d hj hd e=>?_;have h1:=Sy h hi;simp only [Jz,Bool.and_eq_true,Option.isNone_iff_eq_none] at h1;exact Jh h1.1.1.1 d (List.mem_of_getElem? (i:=j) (by rw [List.getElem?_take_of_lt hj];exact hd)) e
theorem EC {l:AC} (h:GK l=true) {i:Nat} {c:AV} (hi:l[i]?=some c) {p:List UInt8} (hp:p∈c.parents):∃k,Ep l p=some k∧k<i:=by
 have h1:=Sy h hi;simp only [Jz,Bool.and_eq_true,List.all_eq_true] at h1;obtain ⟨k,hk⟩:=Option.isSome_iff_exists.1 (h1.2 p hp);exact ⟨k,Pm hk⟩
def Ee (l:AC):Nat→Option Nat→List Nat
 | 0,_=>[]
 | _+1,none=>[]
 | n+1,some k=>k::match l[k]? with
  | none=>[]
  | some c=>match c.parents with
   | []=>[]
   | p::_=>Ee l n (Ep l p)
def Cp (l:AC) (id:List UInt8):List Nat:=Ee l l.length (Ep l id)
theorem Rw {l:AC} (h:GK l=true):∀(k n m:Nat),k<n→k<m→k<l.length→Ee l n (some k)=Ee l m (some k):=by
 intro k
 induction k using Nat.strongRecOn with
 | _ k ih=>
  intro n m hn hm hk;obtain ⟨n,rfl⟩:∃q,n=q+1:=⟨n - 1,by omega⟩;obtain ⟨m,rfl⟩:∃q,m=q+1:=⟨m - 1,by omega⟩;obtain ⟨c,hc⟩:∃c,l[k]?=some c:=⟨_,List.getElem?_eq_getElem hk⟩;rw [Ee,Ee,hc]
  congr 1
  simp only
  cases hp:c.parents with
  | nil=>rfl
  | cons p r=>
   simp only;obtain ⟨j,hj,a0⟩:=EC h hc (p:=p) (by rw [hp];exact List.mem_cons_self ..);rw [hj];exact ih j a0 n m (by omega) (by omega) (by omega)
theorem PK {l:AC}:∀(n:Nat) (o:Option Nat),(∀k,o=some k→k<l.length)→∀k∈Ee l n o,k<l.length
 | 0,_,_,k,h=>by simp [Ee] at h
 | n+1,none,_,k,h=>by simp [Ee] at h
 | n+1,some q,hq,k,h=>by
  rw [Ee] at h;rcases List.mem_cons.1 h with rfl | h
  ·exact hq k rfl
  ·cases hc:l[q]? with
   | none=>rw [hc] at h;simp at h
   | some c=>
    rw [hc] at h;simp only at h
    cases hp:c.parents with
    | nil=>rw [hp] at h;simp at h
    | cons p r=>
     rw [hp] at h;simp only at h;exact PK n _ (λk hk=>Ga hk) k h
def X5:IZ (List UInt8):=λ_ cs s=>cs=[Aj s]∧s.length≤9223372036854775807
abbrev Eu:World→Value→List (List UInt8)→Prop:=Cw 1 X5
def BR (c:AV) (pv bv:Value):List Value:=[Aj c.id,pv,bv,Aj c.note]
def KW:IZ AV:=λw cs c=>∃pv bv,cs=BR c pv bv∧Eu w pv c.parents∧c.id.length≤9223372036854775807∧∃bp bn bc,bv=.slice bp bn bc
abbrev Dw:World→Value→AC→Prop:=Cw 4 KW
theorem Eu.ext {w w':World} {v:Value} {l:List (List UInt8)} (h:Eu w v l) (x:Ae w w'):Eu w' v l:=Cw.ext h x λ_ _ h=>h
theorem KW.ext {w w':World} {cs:List Value} {c:AV} (h:KW w cs c) (x:Ae w w'):KW w' cs c:=let ⟨pv,bv,e,h1,h2⟩:=h;⟨pv,bv,e,h1.ext x,h2⟩
theorem Dw.ext {w w':World} {v:Value} {l:AC} (h:Dw w v l) (x:Ae w w'):Dw w' v l:=Cw.ext h x λ_ _ h=>h.ext x
theorem Eu.at {w:World} {p:Option Addr} {c:Nat} {l:List (List UInt8)} (h:Eu w (.slice p l.length c) l) {i:Nat} {s:List UInt8} (hi:l[i]?=some s):∃a,p=some a∧s.length≤9223372036854775807∧w.cell? (a.add (((i:Nat):Int).toNat*1))=some (Aj s):=by
 obtain ⟨a,cs,h1,h2,⟨rfl,h3⟩,h4⟩:=Cw.at h hi;exact ⟨a,h1,h3,by have:=h4 0 _ rfl;rwa [N3] at this⟩
theorem Dw.at {w:World} {p:Option Addr} {k:Nat} {l:AC} (h:Dw w (.slice p l.length k) l) {i:Nat} {c:AV} (hi:l[i]?=some c):∃a q n bv,p=some a∧Eu w (.slice q c.parents.length n) c.parents∧∀j u,(BR c (.slice q c.parents.length n) bv)[j]?=some u→w.cell? ((a.add (((i:Nat):Int).toNat*4)).add j)=some u:=by
 obtain ⟨a,cs,h1,h2,⟨pv,bv,rfl,h3,h4⟩,h5⟩:=Cw.at h hi;obtain ⟨q,n,rfl⟩:=h3.slice;exact ⟨a,q,n,bv,h1,h3,h5⟩
theorem Dw.at' {w:World} {p:Option Addr} {k:Nat} {l:AC} (h:Dw w (.slice p l.length k) l) {i:Nat} {c:AV} (hi:l[i]?=some c):∃a q n bp bn bc,p=some a∧Eu w (.slice q c.parents.length n) c.parents∧∀j u,(BR c (.slice q c.parents.length n) (.slice bp bn bc))[j]?=some u→w.cell? ((a.add (((i:Nat):Int).toNat*4)).add j)=some u:=by
 obtain ⟨a,cs,h1,h2,⟨pv,bv,rfl,h3,h4,bp,bn,bc,rfl⟩,h5⟩:=Cw.at h hi;obtain ⟨q,n,rfl⟩:=h3.slice;exact ⟨a,q,n,bp,bn,bc,h1,h3,h5⟩
theorem Cw.weak {α:Type} {m:Nat} {R S:IZ α} {w:World} {v:Value} {l:List α} (h:Cw m R w v l) (hR:∀x cs,x∈l→R w cs x→S w cs x):Cw m S w v l:=by
 obtain ⟨h0,h | ⟨a,c,e,h⟩⟩:=h
 ·exact ⟨h0,.inl h⟩
 ·exact ⟨h0,.inr ⟨a,c,e,λi y hi=>let ⟨cs,h1,h2,h3⟩:=h i y hi;⟨cs,h1,hR y cs (List.mem_of_getElem? hi) h2,h3⟩⟩⟩
def VM:IZ AV:=λw cs c=>∃pv bv,cs=BR c pv bv∧Eu w pv c.parents∧c.id.length≤1000000∧Cs w bv c.book∧Bu c.book=true
abbrev Da:World→Value→AC→Prop:=Cw 4 VM
theorem Da.ext {w w':World} {v:Value} {l:AC} (h:Da w v l) (x:Ae w w'):Da w' v l:=Cw.ext h x λ_ _ ⟨pv,bv,e,h1,h2,h3,h4⟩=>⟨pv,bv,e,h1.ext x,h2,Ak.ext h3 x,h4⟩
theorem Da.past {w:World} {v:Value} {l:AC} (h:Da w v l):Dw w v l:=Cw.weak h λc cs _ ⟨pv,bv,e,h1,h2,h3,_⟩=>by
 obtain ⟨p,k,rfl⟩:=h3.slice;exact ⟨pv,_,e,h1,by omega,p,_,k,rfl⟩
theorem Da.at {w:World} {p:Option Addr} {k:Nat} {l:AC} (h:Da w (.slice p l.length k) l) {i:Nat} {c:AV} (hi:l[i]?=some c):∃a q n bp bc,p=some a∧Eu w (.slice q c.parents.length n) c.parents∧Cs w (.slice bp c.book.length bc) c.book∧c.id.length≤1000000∧Bu c.book=true∧∀j u,(BR c (.slice q c.parents.length n) (.slice bp c.book.length bc))[j]?=some u→w.cell? ((a.add (((i:Nat):Int).toNat*4)).add j)=some u:=by
 obtain ⟨a,cs,h1,h2,⟨pv,bv,rfl,h3,h4,h5,h6⟩,h7⟩:=Cw.at h hi;obtain ⟨q,n,rfl⟩:=h3.slice;obtain ⟨bp,bc,rfl⟩:=h5.slice;exact ⟨a,q,n,bp,bc,h1,h3,h5,h4,h6,h7⟩
theorem Da.may {w:World} {v:Value} {l:AC} (h:Da w v l):∀c∈l,Bu c.book=true∧c.id.length≤1000000:=λc hc=>by
 obtain ⟨i,hi⟩:=List.getElem?_of_mem hc;obtain ⟨p,k,rfl⟩:=Cw.slice h;obtain ⟨a,q,n,bp,bc,-,-,-,h1,h2,-⟩:=Da.at h hi;exact ⟨h2,h1⟩
def DB (n:Nat):List UInt8:=if h:n<128 then [UInt8.ofNat n] else UInt8.ofNat (n % 128+128)::DB (n / 128)
 termination_by n
 decreasing_by omega
def FI (s:List UInt8):List UInt8:=DB s.length++s
def G0 (l:List (List UInt8)):List UInt8:=DB l.length++l.flatMap FI
theorem IM {n:Nat} (h:n<128):DB n=[UInt8.ofNat n]:=by rw [DB,dif_pos h]
theorem MJ {n:Nat} (h:128≤n):DB n=UInt8.ofNat (n % 128+128)::DB (n / 128):=by rw [DB,dif_neg (by omega)]
theorem JM {n:Nat} (h:n<256):(UInt8.ofNat n).toNat=n:=by simp;omega
section
variable {α:Type} [DecidableEq α]
def Cm:List α→List α→Nat
 | [],_=>0
 | _::_,[]=>0
 | x::a,y::b=>if x=y then Cm a b+1 else max (Cm a (y::b)) (Cm (x::a) b)
 termination_by a b=>a.length+b.length
def AE:List α→List α→Nat→Nat→List (Nat×Nat)
 | [],_,_,_=>[]
 | _::_,[],_,_=>[]
 | x::a,y::b,i,k=>if x=y then (i,k)::AE a b (i+1) (k+1) else if Cm (x::a) b≤Cm a (y::b) then AE a (y::b) (i+1) k else AE (x::a) b i (k+1)
 termination_by a b _ _=>a.length+b.length
theorem Gx:∀(a b:List α) (i k:Nat),∀p∈AE a b i k,i≤p.1∧p.1<i+a.length∧k≤p.2∧p.2<k+b.length
 | [],_,_,_,p,h=>by simp [AE] at h
 | _::_,[],_,_,p,h=>by simp [AE] at h
 | x::a,y::b,i,k,p,h=>by
  rw [AE] at h;simp only [List.length_cons]
  split at h
  ·rcases List.mem_cons.1 h with rfl | h
   ·simp
   ·have:=Gx a b (i+1) (k+1) p h;omega
  split at h
  ·have:=Gx a (y::b) (i+1) k p h;simp only [List.length_cons] at this;omega
  ·have:=Gx (x::a) b i (k+1) p h;simp only [List.length_cons] at this;omega
 termination_by a b _ _=>a.length+b.length
end
def Bj (n:Nat) (ps:List (Nat×Nat)):List Int:=ps.foldl (λl p=>l.set p.1 (p.2:Int)) (List.replicate n (-1))
def Ci (new:Int):List Int→Int
 | []=>new
 | k::r=>if 0≤k then k else Ci new r
def DZ (new:Int):Int→List Int→List Int
 | _,[]=>[]
 | free,k::r=>if 0≤k then k::DZ new (k+1) r else if free<Ci new r then free::DZ new (free+1) r else -1::DZ new free r
theorem B5 (n:Nat) (ps:List (Nat×Nat)):(Bj n ps).length=n:=by
 unfold Bj;have:∀(ps:List (Nat×Nat)) (l:List Int),(ps.foldl (λl p=>l.set p.1 (p.2:Int)) l).length=l.length:=λps=>by
  induction ps with
  | nil=>simp
  | cons p r ih=>intro l;rw [List.foldl_cons,ih,List.length_set]
 rw [this];simp
theorem HY (new:Int):∀(free:Int) (l:List Int),(DZ new free l).length=l.length
 | _,[]=>rfl
 | free,k::r=>by
  rw [DZ]
  split
  ·simp [HY new (k+1) r]
  split
  ·simp [HY new (free+1) r]
  ·simp [HY new free r]
def Dt {α:Type} [DecidableEq α] (a b:List α):List Int:=DZ b.length 0 (Bj a.length (AE a b 0 0))
theorem H9 {α:Type} [DecidableEq α] (a b:List α):(Dt a b).length=a.length:=by rw [Dt,HY,B5]
def Ch (r:List (List UInt8)):List UInt8:=G0 (r.filter λs=>decide (s≠[]))
def Bx (a b:Aq):List Int:=Dt (a.rows.map Ch) (b.rows.map Ch)
def AN (a b:Aq) (m:List Int):List (Nat×Nat):=(List.range a.rows.length).filterMap λi=>match (m[i]?:Option Int) with
 | none=>none
 | some (k:Int)=>if 0≤k∧k<b.rows.length∧Ch (a.rows.getD i [])=Ch (b.rows.getD k.toNat []) then some (i,k.toNat) else none
def F2 (s:Aq) (rs:List Nat) (c:Nat):List UInt8:=G0 (rs.map λr=>(s.rows.getD r []).getD c [])
def A2 (s:Aq) (rs:List Nat):List (List UInt8):=(List.range s.cols.toNat).map (F2 s rs)
def Ex (a b:Aq) (m:List Int):List Int:=Dt (A2 a ((AN a b m).map Prod.fst)) (A2 b ((AN a b m).map Prod.snd))
section
variable {α:Type} [DecidableEq α]
def Jw:List α→List α→Nat→List Int
 | [],_,_=>[]
 | _::a,[],k=>-1::Jw a [] k
 | x::a,y::b,k=>if x=y then (k:Int)::Jw a b (k+1) else if Cm (x::a) b≤Cm a (y::b) then -1::Jw a (y::b) k else Jw (x::a) b (k+1)
 termination_by a b _=>a.length+b.length
theorem Kg:∀(a:List α) (k:Nat),Jw a [] k=List.replicate a.length (-1)
 | [],_=>by simp [Jw]
 | x::a,k=>by rw [Jw,Kg a k,List.length_cons,List.replicate_succ]
theorem Jo:∀(a b:List α) (i k:Nat) (pre:List Int),pre.length=i→(AE a b i k).foldl (λl p=>l.set p.1 (p.2:Int)) (pre++List.replicate a.length (-1))=pre++Jw a b k
 | [],_,_,_,pre,_=>by simp [AE,Jw]
 | x::a,[],i,k,pre,_=>by
  rw [Kg]
  simp [AE]
 | x::a,y::b,i,k,pre,h=>by
  rw [AE,Jw]
  split
  ·rw [List.foldl_cons];simp only [List.length_cons,List.replicate_succ];rw [List.set_append_right _ _ (by omega),h,Nat.sub_self,List.set_cons_zero];have:=Jo a b (i+1) (k+1) (pre++[(k:Int)]) (by simp [h]);rw [List.append_assoc,List.singleton_append] at this;rw [this,List.append_assoc,List.singleton_append]
  split
  ·have:=Jo a (y::b) (i+1) k (pre++[-1]) (by simp [h]);rw [List.append_assoc,List.singleton_append] at this;simp only [List.length_cons,List.replicate_succ];rw [this,List.append_assoc,List.singleton_append]
  ·exact Jo (x::a) b i (k+1) pre h
 termination_by a b _ _ _=>a.length+b.length
theorem Ry (a b:List α):Bj a.length (AE a b 0 0)=Jw a b 0:=by
 have:=Jo a b 0 0 [] rfl
 simpa [Bj] using this
theorem KG {new:Int}:∀{l:List Int} {last last':Int},CO new last l=true→last'≤last→CO new last' l=true
 | [],_,_,_,_=>rfl
 | z::r,last,last',h,hl=>by
  rw [CO] at h ⊢
  split at h
  ·rename_i e;rw [if_pos e];exact KG h hl
  ·rename_i e;rw [if_neg e]
   split at h
   ·cases h
   ·rw [if_neg (by omega)];exact h
theorem MS (new last:Int):∀n:Nat,CO new last (List.replicate n (-1))=true
 | 0=>rfl
 | n+1=>by rw [List.replicate_succ,CO,if_pos rfl,MS new last n]
theorem Ic:∀(a b:List α) (k:Nat),CO ((k+b.length:Nat):Int) ((k:Int) - 1) (Jw a b k)=true
 | [],_,_=>by simp [Jw,CO]
 | x::a,[],k=>by rw [Kg];exact MS _ _ _
 | x::a,y::b,k=>by
  rw [Jw]
  split
  ·rw [CO,if_neg (by omega),if_neg (by simp only [List.length_cons];omega)];have:=Ic a b (k+1);rw [show k+(y::b).length=k+1+b.length by simp only [List.length_cons];omega];rw [show (((k+1:Nat):Int) - 1)=(k:Int) by omega] at this;exact this
  split
  ·rw [CO,if_pos rfl];exact Ic a (y::b) k
  ·have:=Ic (x::a) b (k+1);rw [show k+(y::b).length=k+1+b.length by simp only [List.length_cons];omega];exact KG this (by omega)
 termination_by a b _=>a.length+b.length
theorem M8 {new:Int}:∀{l:List Int} {last:Int},CO new last l=true→Ci new l≤new
 | [],_,_=>Int.le_refl _
 | z::r,last,h=>by
  rw [CO] at h;rw [Ci]
  split at h
  ·rename_i e;rw [if_neg (by omega)];exact M8 h
  ·split at h
   ·cases h
   ·rename_i e1 e2
    split
    ·omega
    ·exact M8 h
theorem KH {new f:Int}:∀{l:List Int} {last:Int},-1≤last→CO new last l=true→last≤f→f<Ci new l→CO new f l=true
 | [],_,_,_,_,_=>rfl
 | z::r,last,h0,h,hl,hf=>by
  rw [CO] at h ⊢;rw [Ci] at hf
  split at h
  ·rename_i e;rw [if_neg (by omega)] at hf;rw [if_pos e];exact KH h0 h hl hf
  ·rename_i e;rw [if_neg e]
   split at h
   ·cases h
   ·rw [if_pos (by omega)] at hf;rw [if_neg (by omega)];exact h
theorem HZ {new:Int}:∀{l:List Int} {free:Int},0≤free→CO new (free - 1) l=true→CO new (free - 1) (DZ new free l)=true
 | [],_,_,_=>rfl
 | k::r,free,h0,h=>by
  rw [CO] at h;rw [DZ];by_cases e:k=-1
  ·rw [if_pos e] at h;rw [if_neg (by omega)];by_cases hn:free<Ci new r
   ·rw [if_pos hn,CO,if_neg (by omega),if_neg (by have:=M8 h;omega)];have h2:=KH (f:=free) (by omega) h (by omega) hn;have:=HZ (free:=free+1) (l:=r) (by omega) (by rw [show free+1 - 1=free by omega];exact h2)
    rwa [show free+1 - 1=free by omega] at this
   ·rw [if_neg hn,CO,if_pos rfl];exact HZ h0 h
  ·rw [if_neg e] at h
   split at h
   ·cases h
   ·rename_i hc;rw [if_pos (by omega),CO,if_neg e,if_neg hc];have:=HZ (free:=k+1) (l:=r) (by omega) (by rw [show k+1 - 1=k by omega];exact h)
    rwa [show k+1 - 1=k by omega] at this
theorem IK (a b:List α) (ha:a.length≤1048576) (hb:b.length≤1048576):M1 ⟨Dt a b,b.length⟩=true:=by
 have h1:CO (b.length:Int) (-1) (Dt a b)=true:=by
  rw [Dt,Ry];have:=Ic a b 0;simp only [Nat.zero_add] at this;exact HZ (free:=0) (Int.le_refl _) this
 simp [M1,h1,H9];omega
end
def A5 (a b:Aq):CB:={sheet:=a.name,rows:=⟨Bx a b,b.rows.length⟩,cols:=⟨Ex a b (Bx a b),((b.cols.toNat:Nat):Int)⟩,gone:=false}
theorem RH {a b:Aq} (ha:CG a=true) (hb:CG b=true):(A5 a b).May:=by
 have key:∀s:Aq,CG s=true→s.rows.length≤24∧s.cols≤12:=λs h=>by
  simp only [CG,Bool.and_eq_true,decide_eq_true_eq] at h;omega
 obtain ⟨a1,a2⟩:=key a ha;obtain ⟨b1,b2⟩:=key b hb;refine ⟨?_,?_⟩
 ·have:=IK (a.rows.map Ch) (b.rows.map Ch) (by simp;omega) (by simp;omega)
  simpa [A5,Bx] using this
 ·have:=IK (A2 a ((AN a b (Bx a b)).map Prod.fst)) (A2 b ((AN a b (Bx a b)).map Prod.snd)) (by simp [A2];omega) (by simp [A2];omega)
  simpa [A5,Ex,A2] using this
abbrev AD:=List (List (List (List UInt8)))
def A4 (p c:A1):List CB:=p.map λs=>match N5 c s.name with
 | none=>⟨s.name,⟨[],0⟩,⟨[],0⟩,true⟩
 | some k=>match c[k]? with
  | none=>⟨s.name,⟨[],0⟩,⟨[],0⟩,true⟩
  | some u=>A5 s u
def GD (b:A1) (id:List UInt8):AD:=b.map λs=>s.rows.map λr=>r.map λ_=>id
def Nv (t:AD) (k x y:Nat) (v:List UInt8):AD:=t.modify k λrows=>rows.modify x λr=>r.set y v
def UM (t:AD) (k x y:Nat):List UInt8:=((t.getD k []).getD x []).getD y []
noncomputable def Jr (c:A1) (ss:List CB) (had:AD) (i k:Nat) (nm:List UInt8) (sh:CB) (r q:Nat) (text:List UInt8) (t:AD):AD:=
 let x:=AK sh.rows r
 let y:=AK sh.cols q
 if 0≤x∧0≤y∧Jk (c.getD k ⟨[],0,[]⟩) x y=D0 nm ss text then Nv t k x.toNat y.toNat (UM had i r q) else t
noncomputable def E9 (c:A1) (ss:List CB) (had:AD) (i k:Nat) (nm:List UInt8) (sh:CB) (r:Nat) (row:List (List UInt8)) (n:Nat) (t:AD):AD:=
 (List.range n).foldl (λt q=>Jr c ss had i k nm sh r q (row.getD q []) t) t
noncomputable def FP (c:A1) (ss:List CB) (had:AD) (i k:Nat) (s:Aq) (sh:CB) (n:Nat) (t:AD):AD:=
 (List.range n).foldl (λt r=>E9 c ss had i k s.name sh r (s.rows.getD r []) (s.rows.getD r []).length t) t
noncomputable def DI (p c:A1) (had:AD) (n:Nat) (t:AD):AD:=
 (List.range n).foldl (λt i=>let s:=p.getD i ⟨[],0,[]⟩;match N5 c s.name with
  | none=>t
  | some k=>FP c (A4 p c) had i k s ((A4 p c).getD i ⟨[],⟨[],0⟩,⟨[],0⟩,true⟩) s.rows.length t) t
noncomputable def HM (p c:A1) (id:List UInt8) (had:AD):AD:=DI p c had p.length (GD c id)
noncomputable def Ed:List (List UInt8×A1)→AD
 | []=>[]
 | (id,b)::r=>(r.foldl (λ(st:A1×AD) x=>(x.2,HM st.1 x.2 x.1 st.2)) (b,GD b id)).2
def D4 (t:AD) (b:A1):Prop:=t.map (λrows=>rows.map List.length)=b.map λs=>s.rows.map List.length
theorem HS (b:A1) (id:List UInt8):D4 (GD b id) b:=by
 simp only [D4,GD,List.map_map];apply List.map_congr_left;intro s _;simp only [Function.comp,List.map_map];apply List.map_congr_left;intro r _;simp
theorem R6 (t:AD) (k x y:Nat) (v:List UInt8):(Nv t k x y v).map (λrows=>rows.map List.length)=t.map λrows=>rows.map List.length:=by
 apply List.ext_getElem?;intro i;simp only [Nv,List.getElem?_map,List.getElem?_modify]
 cases h:t[i]? with
 | none=>rfl
 | some rows=>
  by_cases e:k=i
  ·simp only [e,if_true];show some ((rows.modify x λr=>r.set y v).map List.length)=some (rows.map List.length)
   congr 1
   apply List.ext_getElem?;intro j;simp only [List.getElem?_map,List.getElem?_modify]
   cases rows[j]? with
   | none=>rfl
   | some r=>by_cases e:x=j<;>simp [e]
  ·simp [e]
theorem D9 {β:Type} {P:AD→Prop} {f:AD→β→AD} (hf:∀t x,P t→P (f t x)):∀(l:List β) (t:AD),P t→P (l.foldl f t)
 | [],_,h=>h
 | x::r,t,h=>D9 hf r _ (hf t x h)
theorem Mo {c:A1} {ss:List CB} {had:AD} {i k:Nat} {nm:List UInt8} {sh:CB} {r q:Nat} {text:List UInt8} {t:AD} {b:A1} (h:D4 t b):D4 (Jr c ss had i k nm sh r q text t) b:=by
 unfold Jr;simp only
 split
 ·unfold D4 at h ⊢;rw [R6];exact h
 ·exact h
theorem RL (p c:A1) (id:List UInt8) (had:AD):D4 (HM p c id had) c:=by
 unfold HM DI;refine D9 (P:=λt=>D4 t c) (λt i h=>?_) _ _ (HS c id);simp only
 split
 ·exact h
 ·exact D9 (P:=λt=>D4 t c) (λt r h=>D9 (P:=λt=>D4 t c) (λt q h=>Mo h) _ _ h) _ _ h
def Dy (new:Int):List Int→List Int
 | []=>[]
 | k::r=>(if 0≤k then k else -1 - Ci new r)::Dy new r
theorem Kb (new:Int):∀l:List Int,(Dy new l).length=l.length
 | []=>rfl
 | _::r=>by simp [Dy,Kb new r]
theorem H6 {new M:Int} (h0:0≤new) (h1:new≤M):∀{l:List Int},(∀z∈l,z≤M)→0≤Ci new l∧Ci new l≤M
 | [],_=>⟨h0,h1⟩
 | k::r,h=>by
  unfold Ci
  split
  ·exact ⟨by assumption,h k (by simp)⟩
  ·exact H6 h0 h1 λz hz=>h z (by simp [hz])
theorem F4 {l:List Int} {j:Nat} {z:Int} (h:l[j]?=some z):l.drop j=z::l.drop (j+1):=by
 obtain ⟨hj,rfl⟩:=List.getElem?_eq_some_iff.1 h;exact List.drop_eq_getElem_cons hj
def Gj (new:Int) (l:List Int) (i:Nat):List Int:=l.take i++Dy new (l.drop i)
theorem SU (new:Int) (l:List Int):Gj new l l.length=l:=by simp [Gj,Dy]
theorem Rb (new:Int) (l:List Int):Gj new l 0=Dy new l:=by simp [Gj]
theorem V2 {l:List Int} {j:Nat} {z:Int} (h:l[j]?=some z):l.take (j+1)=l.take j++[z]:=by rw [List.take_add_one,h];rfl
theorem QZ {new:Int} {l:List Int} {i:Nat} {z:Int} (h:l[i]?=some z) (hz:0≤z):Gj new l i=Gj new l (i+1)∧Ci new (l.drop i)=z:=by
 rw [Gj,Gj,F4 h,V2 h,Dy,if_pos hz,List.append_assoc];exact ⟨rfl,by rw [Ci,if_pos hz]⟩
theorem Ra {new:Int} {l:List Int} {i:Nat} {z:Int} (h:l[i]?=some z) (hz:¬0≤z):(Gj new l (i+1)).set i (-1 - Ci new (l.drop (i+1)))=Gj new l i∧Ci new (l.drop i)=Ci new (l.drop (i+1)):=by
 have hi:=(List.getElem?_eq_some_iff.1 h).1;rw [Gj,Gj,F4 h,V2 h,Dy,if_neg hz,List.append_assoc,List.set_append_right _ _ (by rw [List.length_take];omega),List.length_take,Nat.min_eq_left (by omega),Nat.sub_self];exact ⟨rfl,by rw [Ci,if_neg hz]⟩
structure Hn (new:Int) (l:List Int) (j:Nat) (done:List Int) (free:Int):Prop where
 len:done.length=j
 done:done++DZ new free (l.drop j)=DZ new 0 l
 free0:0≤free
theorem Hn.start (new:Int) (l:List Int):Hn new l 0 [] 0:=⟨rfl,by simp,by omega⟩
theorem Hn.kept {new:Int} {l:List Int} {j:Nat} {done:List Int} {free z:Int} (h:Hn new l j done free) (hz:l[j]?=some z) (h0:0≤z):Hn new l (j+1) (done++[z]) (z+1):=
 ⟨by simp [h.len],by rw [←h.done,F4 hz,DZ,if_pos h0];simp,by omega⟩
theorem Hn.fill {new:Int} {l:List Int} {j:Nat} {done:List Int} {free z:Int} (h:Hn new l j done free) (hz:l[j]?=some z) (h0:¬0≤z) (hf:free<Ci new (l.drop (j+1))):Hn new l (j+1) (done++[free]) (free+1):=
 ⟨by simp [h.len],by rw [←h.done,F4 hz,DZ,if_neg h0,if_pos hf];simp,by have:=h.free0;omega⟩
theorem Hn.gone {new:Int} {l:List Int} {j:Nat} {done:List Int} {free z:Int} (h:Hn new l j done free) (hz:l[j]?=some z) (h0:¬0≤z) (hf:¬free<Ci new (l.drop (j+1))):Hn new l (j+1) (done++[-1]) free:=
 ⟨by simp [h.len],by rw [←h.done,F4 hz,DZ,if_neg h0,if_neg hf];simp,h.free0⟩
theorem Hn.all {new:Int} {l:List Int} {done:List Int} {free:Int} (h:Hn new l l.length done free):done=DZ new 0 l:=by
 rw [←h.done];simp [DZ]
theorem Tl {new:Int} {l:List Int} {j:Nat} {z x:Int} {done:List Int} (hl:done.length=j) (hz:l[j]?=some z):(done++Dy new (l.drop j)).set j x=(done++[x])++Dy new (l.drop (j+1)):=by
 rw [F4 hz,Dy,List.set_append_right _ _ (by omega),hl,Nat.sub_self];simp
theorem VT {new:Int} {l:List Int} {j:Nat} {z:Int} {done:List Int} (hl:done.length=j) (hz:l[j]?=some z):(done++Dy new (l.drop j))[j]?=some (if 0≤z then z else -1 - Ci new (l.drop (j+1))):=by
 rw [F4 hz,Dy,List.getElem?_append_right (by omega),hl,Nat.sub_self];rfl
theorem UL {new:Int} {l:List Int} {j:Nat} {z:Int} {done:List Int} (hz:l[j]?=some z) (h0:0≤z):done++Dy new (l.drop j)=(done++[z])++Dy new (l.drop (j+1)):=by
 rw [F4 hz,Dy,if_pos h0];simp
abbrev Ce (lo:Nat) (w:World) (v:Value) (l:List UInt8):Prop:=Ax w lo 5 1 v l.length (A9 l)
theorem K2 (l:List UInt8):(A9 l).length=l.length:=by simp [A9]
theorem F0 (l m:List UInt8):A9 (l++m)=A9 l++A9 m:=by simp [A9]
theorem LM (l:List UInt8):∀u∈A9 l,u.oneCell'=true:=λu hu=>by
 simp only [A9,List.mem_map] at hu;obtain ⟨b,_,rfl⟩:=hu;rfl
theorem WV:∀k,k<256→bits .or .u8 ((k:Nat):Int) 128=((k % 128+128:Nat):Int):=by decide +kernel
theorem Xw (m:Nat):bits .or .u8 ((UInt8.ofNat m).toNat:Int) 128=((UInt8.ofNat (m % 128+128)).toNat:Int):=by
 have e:(UInt8.ofNat m).toNat=m % 256:=by simp
 rw [e,WV _ (Nat.mod_lt _ (by decide)),JM (by omega)]
 congr 1
 omega
theorem Qt:∀(k n:Nat),0<k→n<128 ^ k→(DB n).length≤k
 | 0,_,h,_=>by omega
 | k+1,n,_,h=>by
  by_cases h1:n<128
  ·rw [IM h1];simp
  ·have hk:0<k:=by
    rcases Nat.eq_zero_or_pos k with e | e
    ·subst e;simp at h;omega
    ·exact e
   rw [MJ (by omega),List.length_cons];have:=Qt k (n / 128) hk (by rw [Nat.pow_succ] at h;omega);omega
theorem Dl {n:Nat} (h:n≤9223372036854775807):(DB n).length≤10:=Qt 10 n (by decide) (Nat.lt_of_le_of_lt h (by decide))
theorem MM {s:List UInt8} (h:s.length≤1000000):(FI s).length≤1000010:=by
 have:=Dl (n:=s.length) (by omega);rw [FI,List.length_append];omega
theorem KL:∀{l:List (List UInt8)},(∀s∈l,s.length≤1000000)→(l.flatMap FI).length≤l.length*1000010
 | [],_=>by simp
 | s::l,h=>by
  have:=KL (l:=l) λu hu=>h u (List.mem_cons_of_mem _ hu);have:=MM (h s (List.mem_cons_self ..));rw [List.flatMap_cons,List.length_append,List.length_cons,Nat.add_mul];omega
set_option maxRecDepth 8000 in
theorem RP (n:Nat) (hn:n≤9223372036854775807) (w:World):AA Tryz.prog 177 [.int .i64 (n:Int)] w (λv w'=>Ce w.heap.size w' v (DB n)∧Ae w w'):=by
 refine AL Tryz.func177 Tryz.ntmps177 ?_;refine Su ?_;refine CW.loop (ι:=Nat×List UInt8×Value) (λx w'=>x.2.1++DB x.1=DB n∧x.1≤n∧Ae w w'∧Ax w' w.heap.size 5 1 x.2.2 x.2.1.length (A9 x.2.1)) (λx=>[(0,.int .i64 x.1),(3,x.2.2)]) (λx=>x.1) (n,[],.slice none 0 0) ⟨rfl,Nat.le_refl _,Chg.refl _ _,Ax.nil _ _ _ _⟩ Fv ?_;rintro ⟨m,out,ov⟩ w1 ⟨a2,a5,a3,hO⟩;dsimp only at a2 a5 hO;show CW _ _ _ _ _ [(0,.int .i64 (m:Int)),(3,ov)] _;have a8:out.length≤10:=by
  have:=congrArg List.length a2;rw [List.length_append] at this;have:=Dl hn;omega
 refine Su ?_;refine Am (λh1=>?_) λh1=>?_
 ·have h1:128≤m:=by simp at h1;omega
  refine Su ?_;refine LW.val rfl rfl rfl (Y.low (m:=m) rfl rfl rfl rfl rfl) ?_;refine LW.bits (z:=((UInt8.ofNat (m % 128+128)).toNat:Int)) rfl rfl rfl (Xw m) rfl ?_;refine Cl λB w2 a6 a0 hB=>?_;refine LW.append (lo:=w.heap.size) (k:=out.length) rfl rfl rfl rfl rfl rfl (hO.ext a0) (by have:=a3.size;have:=a0.size;omega) hB rfl rfl rfl (by show (out.length+1)*2≤_;omega) rfl ?_;intro v3 w3 a4 a1 a7;replace a1:Ax w3 w.heap.size 5 1 v3 (out.length+1) (A9 out++A9 [UInt8.ofNat (m % 128+128)]):=a1;rw [←F0] at a1;refine Su ?_;refine LW.shr (m:=7) (z:=((m / 128:Nat):Int)) rfl rfl (by decide) (by rw [show (2:Int) ^ 7=128 by decide];omega) rfl ?_;refine Su ?_;exact QW.again (m / 128,out++[UInt8.ofNat (m % 128+128)],v3) ⟨by
   rw [←a2,MJ (n:=m) h1];simp,by show m / 128≤n;omega,(a3.trans a0).step a4 (λb hb=>by have:=(hO.lt hb).1;omega),by
   show Ax _ _ _ _ v3 (out++[UInt8.ofNat (m % 128+128)]).length _;rw [List.length_append];exact a1⟩ Fv (by show m / 128<m;omega)
 have h1:m<128:=by simp at h1;omega
 refine Su ?_;refine Cl λB w2 a6 a0 hB=>?_;replace hB:Blk w2 B (A9 [UInt8.ofNat m]) 5:=by
  have e:(m:Int)=((UInt8.ofNat m).toNat:Int):=by rw [JM (by omega)]
  rw [e] at hB;exact hB
 refine LW.append (lo:=w.heap.size) (k:=out.length) rfl rfl rfl rfl rfl rfl (hO.ext a0) (by have:=a3.size;have:=a0.size;omega) hB rfl rfl rfl (by show (out.length+1)*2≤_;omega) rfl ?_;intro v3 w3 a4 a1 a7;rw [←F0] at a1;refine Su ?_;refine QW.body1 Tryz.results177 rfl ⟨?_,(a3.trans a0).step a4 (λb hb=>by have:=(hO.lt hb).1;omega)⟩;rw [←a2,IM h1];show Ax _ _ _ _ v3 (out++[UInt8.ofNat m]).length _;rw [List.length_append];exact a1
set_option maxRecDepth 8000 in
theorem Qx (n:Nat) (hn:n≤9223372036854775807) (w:World):AA Tryz.prog 143 [.int .i64 (n:Int)] w (λv w'=>Ce w.heap.size w' v (DB n)∧Ae w w'):=by
 refine AL Tryz.func143 Tryz.ntmps143 ?_;refine Su ?_;refine CW.loop (ι:=Nat×List UInt8×Value) (λx w'=>x.2.1++DB x.1=DB n∧x.1≤n∧Ae w w'∧Ax w' w.heap.size 5 1 x.2.2 x.2.1.length (A9 x.2.1)) (λx=>[(0,.int .i64 x.1),(3,x.2.2)]) (λx=>x.1) (n,[],.slice none 0 0) ⟨rfl,Nat.le_refl _,Chg.refl _ _,Ax.nil _ _ _ _⟩ Fv ?_;rintro ⟨m,out,ov⟩ w1 ⟨a2,a5,a3,hO⟩;dsimp only at a2 a5 hO;show CW _ _ _ _ _ [(0,.int .i64 (m:Int)),(3,ov)] _;have a8:out.length≤10:=by
  have:=congrArg List.length a2;rw [List.length_append] at this;have:=Dl hn;omega
 refine Su ?_;refine Am (λh1=>?_) λh1=>?_
 ·have h1:128≤m:=by simp at h1;omega
  refine Su ?_;refine Cl λB w2 a6 a0 hB=>?_;replace hB:Blk w2 B (A9 [UInt8.ofNat (m % 128+128)]) 5:=by
   have e:(128+(m:Int) % 128)=((UInt8.ofNat (m % 128+128)).toNat:Int):=by rw [JM (by omega)];omega
   rw [e] at hB;exact hB
  refine LW.append (lo:=w.heap.size) (k:=out.length) rfl rfl rfl rfl rfl rfl (hO.ext a0) (by have:=a3.size;have:=a0.size;omega) hB rfl rfl rfl (by show (out.length+1)*2≤_;omega) rfl ?_;intro v3 w3 a4 a1 a7;rw [←F0] at a1;refine Su ?_;exact QW.again (m / 128,out++[UInt8.ofNat (m % 128+128)],v3) ⟨by
   rw [←a2,MJ (n:=m) h1];simp,by show m / 128≤n;omega,(a3.trans a0).step a4 (λb hb=>by have:=(hO.lt hb).1;omega),by
   show Ax _ _ _ _ v3 (out++[UInt8.ofNat (m % 128+128)]).length _;rw [List.length_append];exact a1⟩ Fv (by show m / 128<m;omega)
 have h1:m<128:=by simp at h1;omega
 refine Su ?_;refine Cl λB w2 a6 a0 hB=>?_;replace hB:Blk w2 B (A9 [UInt8.ofNat m]) 5:=by
  have e:(m:Int)=((UInt8.ofNat m).toNat:Int):=by rw [JM (by omega)]
  rw [e] at hB;exact hB
 refine LW.append (lo:=w.heap.size) (k:=out.length) rfl rfl rfl rfl rfl rfl (hO.ext a0) (by have:=a3.size;have:=a0.size;omega) hB rfl rfl rfl (by show (out.length+1)*2≤_;omega) rfl ?_;intro v3 w3 a4 a1 a7;rw [←F0] at a1;refine Su ?_;refine QW.body1 Tryz.results143 rfl ⟨?_,(a3.trans a0).step a4 (λb hb=>by have:=(hO.lt hb).1;omega)⟩;rw [←a2,IM h1];show Ax _ _ _ _ v3 (out++[UInt8.ofNat m]).length _;rw [List.length_append];exact a1
theorem Ce.app {lo:Nat} {w:World} {v:Value} {l m:List UInt8} (h:Ax w lo 5 1 v (l.length+m.length) (A9 l++A9 m)):Ce lo w v (l++m):=by
 show Ax _ _ _ _ v (l++m).length _;rw [List.length_append,F0];exact h
theorem Ce.bytes' {lo:Nat} {w:World} {p:Option Addr} {c:Nat} {l:List UInt8} (h:Ce lo w (.slice p l.length c) l):p=none∧l.length=0∨∃a,p=some a∧∀j u,(A9 l)[j]?=some u→w.cell? (a.add j)=some u:=by
 obtain ⟨hx,⟨e,e2⟩ | ⟨g,cap,sp,e,hB,h1,h2,h3⟩⟩:=h
 ·simp only [Value.slice.injEq] at e;exact .inl ⟨e.1,e2⟩
 ·simp only [Value.slice.injEq] at e;refine .inr ⟨_,e.1,λj u hj=>?_⟩;rw [A0];refine hB.cell ?_;rw [Nat.zero_add,List.getElem?_append_left (List.getElem?_eq_some_iff.1 hj).1];exact hj
theorem Pc (s:List UInt8) (hs:s.length≤1000000) (w:World):AA Tryz.prog 178 [Aj s] w (λv w'=>Ce w.heap.size w' v (FI s)∧Ae w w'):=by
 refine AL Tryz.func178 Tryz.ntmps178 ?_;refine Su ?_;refine Ap rfl rfl (RP s.length (by omega) w) ?_;rintro v w1 ⟨hO,a0⟩;obtain ⟨p,c,rfl⟩:=hO.slice;have:=Dl (n:=s.length) (by omega);refine Su ?_;refine LW.append_str (k:=(DB s.length).length) (xs:=A9 (DB s.length)) (s:=s) rfl rfl rfl rfl rfl rfl rfl rfl rfl hO a0.size (by show ((DB s.length).length+s.length)*2≤_;omega) rfl ?_;intro v2 w2 a1 a2 a3;refine Su ?_;exact QW.body1 Tryz.results178 rfl ⟨Ce.app a2,a0.step a1 (λb hb=>by have:=(hO.lt hb).1;omega)⟩
theorem OL (s:List UInt8) (hs:s.length≤1000000) (w:World):AA Tryz.prog 144 [Aj s] w (λv w'=>Ce w.heap.size w' v (FI s)∧Ae w w'):=by
 refine AL Tryz.func144 Tryz.ntmps144 ?_;refine Su ?_;refine Ap rfl rfl (Qx s.length (by omega) w) ?_;rintro v w1 ⟨hO,a0⟩;obtain ⟨p,c,rfl⟩:=hO.slice;have:=Dl (n:=s.length) (by omega);refine Su ?_;refine LW.append_str (k:=(DB s.length).length) (xs:=A9 (DB s.length)) (s:=s) rfl rfl rfl rfl rfl rfl rfl rfl rfl hO a0.size (by show ((DB s.length).length+s.length)*2≤_;omega) rfl ?_;intro v2 w2 a1 a2 a3;refine Su ?_;exact QW.body1 Tryz.results144 rfl ⟨Ce.app a2,a0.step a1 (λb hb=>by have:=(hO.lt hb).1;omega)⟩
theorem Nj {ok:Addr→Prop} {w:World} {v:Value} {l:List (List UInt8)} (h:Av ok w v l):∀s∈l,s.length≤1000000:=λs hs=>by
 obtain ⟨i,hi⟩:=List.getElem?_of_mem hs;obtain ⟨p,c,rfl⟩:=h.slice;exact (Av.at h hi).choose_spec.2.2.1
theorem NX {l:List (List UInt8)} (h:∀s∈l,s.length≤1000000) (hl:l.length≤1000000) (k:Nat):(DB l.length++(l.take k).flatMap FI).length≤10+1000000*1000010:=by
 have h1:=Dl (n:=l.length) (by omega);have h2:=KL (l:=l.take k) λs hs=>h s (List.mem_of_mem_take hs);have h3:(l.take k).length*1000010≤1000000*1000010:=Nat.mul_le_mul_right _ (by rw [List.length_take];omega);rw [List.length_append];omega
theorem K1 (l:List (List UInt8)) (tv:Value) (w:World) (h:BE w tv l):AA Tryz.prog 132 [tv] w (λv w'=>Ce w.heap.size w' v (G0 l)∧Ae w w'):=by
 obtain ⟨p,c,rfl⟩:=h.slice;have hl:=h.1;have hs:=Nj h;refine AL Tryz.func132 Tryz.ntmps132 ?_;refine Su ?_;refine Ap rfl rfl (RP l.length (by omega) w) ?_;rintro v w1 ⟨hO,a6⟩;refine Su ?_;refine CW.loop (ι:=Nat×Value) (λx w'=>x.1≤l.length∧Ae w w'∧Ce w.heap.size w' x.2 (DB l.length++(l.take x.1).flatMap FI)) (λx=>[(3,x.2),(9,.slice p l.length c),(10,.int .i64 l.length),(11,.int .i64 x.1)]) (λx=>l.length - x.1) (0,v) ⟨by omega,a6,by rw [List.take_zero,List.flatMap_nil,List.append_nil];exact hO⟩ BN ?_;rintro ⟨k,ov⟩ w2 ⟨hk,a1,a0⟩;dsimp only at hk a0;show CW _ _ _ _ _ [(3,ov),(9,.slice p l.length c),(10,.int .i64 l.length),(11,.int .i64 (k:Int))] _;refine Su ?_;refine Am (λh1=>?_) λh1=>?_;rotate_left
 ·have h1:k=l.length:=by simp at h1;omega
  subst h1;refine Su ?_;refine QW.body1 Tryz.results132 rfl ⟨?_,a1⟩;rw [List.take_length] at a0;exact a0
 have h1:k<l.length:=by simp at h1;omega
 obtain ⟨s,a3⟩:∃s,l[k]?=some s:=⟨_,List.getElem?_eq_getElem h1⟩;obtain ⟨a,rfl,-,a4,hc⟩:=Av.at (Av.ext h a1) a3;refine Su ?_;refine Ap rfl rfl (Pc s a4 w2) ?_;rintro u w3 ⟨a5,a2⟩;obtain ⟨pu,cu,rfl⟩:=a5.slice;have hb:=NX hs hl k;have ht:=MM a4;have hq:=(Ce.bytes' a5);refine Su ?_;refine LW.append_any (lo:=w.heap.size) (k:=(DB l.length++(l.take k).flatMap FI).length) (xs:=A9 (DB l.length++(l.take k).flatMap FI)) (news:=A9 (FI s)) rfl rfl rfl rfl rfl rfl (a0.ext a2) (by have:=a1.size;have:=a2.size;omega) (by rw [K2];show _=_*1;omega) hq (LM _) (by show (_+(FI s).length)*2≤_;omega) rfl ?_;intro v4 w4 a7 a8 a9;refine Su ?_;exact QW.again (k+1,v4) ⟨h1,(a1.trans a2).step a7 (λb hb=>by have:=(a0.lt hb).1;omega),by
  have:=Ce.app a8;rw [List.append_assoc] at this;show Ce _ _ v4 (DB l.length++(l.take (k+1)).flatMap FI);rw [List.take_add_one,a3,List.flatMap_append]
  simpa using this⟩ BN (by show l.length - (k+1)<l.length - k;omega)
theorem GR (l:List (List UInt8)) (tv:Value) (w:World) (h:BE w tv l):AA Tryz.prog 104 [tv] w (λv w'=>Ce w.heap.size w' v (G0 l)∧Ae w w'):=by
 obtain ⟨p,c,rfl⟩:=h.slice;have hl:=h.1;have hs:=Nj h;refine AL Tryz.func104 Tryz.ntmps104 ?_;refine Su ?_;refine Ap rfl rfl (Qx l.length (by omega) w) ?_;rintro v w1 ⟨hO,a6⟩;refine Su ?_;refine CW.loop (ι:=Nat×Value) (λx w'=>x.1≤l.length∧Ae w w'∧Ce w.heap.size w' x.2 (DB l.length++(l.take x.1).flatMap FI)) (λx=>[(0,.slice p l.length c),(3,x.2),(4,.int .i64 x.1)]) (λx=>l.length - x.1) (0,v) ⟨by omega,a6,by rw [List.take_zero,List.flatMap_nil,List.append_nil];exact hO⟩ Bh ?_;rintro ⟨k,ov⟩ w2 ⟨hk,a1,a0⟩;dsimp only at hk a0;show CW _ _ _ _ _ [(0,.slice p l.length c),(3,ov),(4,.int .i64 (k:Int))] _;refine Su ?_;refine Am (λh1=>?_) λh1=>?_;rotate_left
 ·have h1:k=l.length:=by simp at h1;omega
  subst h1;refine Su ?_;refine QW.body1 Tryz.results104 rfl ⟨?_,a1⟩;rw [List.take_length] at a0;exact a0
 have h1:k<l.length:=by simp at h1;omega
 obtain ⟨s,a3⟩:∃s,l[k]?=some s:=⟨_,List.getElem?_eq_getElem h1⟩;obtain ⟨a,rfl,-,a4,hc⟩:=Av.at (Av.ext h a1) a3;refine Su ?_;refine Ap rfl rfl (OL s a4 w2) ?_;rintro u w3 ⟨a5,a2⟩;obtain ⟨pu,cu,rfl⟩:=a5.slice;have hb:=NX hs hl k;have ht:=MM a4;have hq:=(Ce.bytes' a5);refine Su ?_;refine LW.append_any (lo:=w.heap.size) (k:=(DB l.length++(l.take k).flatMap FI).length) (xs:=A9 (DB l.length++(l.take k).flatMap FI)) (news:=A9 (FI s)) rfl rfl rfl rfl rfl rfl (a0.ext a2) (by have:=a1.size;have:=a2.size;omega) (by rw [K2];show _=_*1;omega) hq (LM _) (by show (_+(FI s).length)*2≤_;omega) rfl ?_;intro v4 w4 a7 a8 a9;refine Su ?_;exact QW.again (k+1,v4) ⟨h1,(a1.trans a2).step a7 (λb hb=>by have:=(a0.lt hb).1;omega),by
  have:=Ce.app a8;rw [List.append_assoc] at this;show Ce _ _ v4 (DB l.length++(l.take (k+1)).flatMap FI);rw [List.take_add_one,a3,List.flatMap_append]
  simpa using this⟩ Bh (by show l.length - (k+1)<l.length - k;omega)
end Go.Proofs.YtefaigjfkddelaaGreatDoor
