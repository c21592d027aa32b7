/-
  Joined by program out of the texts CT Addr Ref LexL.
-/
import Derived.Test.YtcjjcnecopnpcaaGreatDoorTab
import Derived.Test.YtcjjcnecopnpcaaGreatDoorMzE
import Derived.Test.YtcjjcnecopnpcaaGreatDoorShelf
import Derived.ChangeAgain
import Derived.Lib.ItoaNum
import Derived.Lib.Strings
import Derived.Lib.IndexMore
import Derived.Lib.AtoiAll
import Derived.Lib.ItoaLen
import Derived.Lib.AtoiAllCases
namespace Go.Proofs.YtcjjcnecopnpcaaGreatDoor
open Tryz
open Go Go.E Go.RowKit
structure CT(w:World):Prop where
 shaped:w.ShapedOpen prog
 pow : Lib.TabIs prog w "internal/strconv.uint64pow10" .u64 Lib.pow10Tab
 syn:∃t v,w.cell? ⟨0,0,none⟩=some (.iface t v)
 rng:∃t v,w.cell? ⟨1,0,none⟩=some (.iface t v)
theorem AC{w w':World}(h:Ah w w'){a:Addr}{v:Value}(hc:w.cell? a=some v):w'.cell? a=some v:=by
 have a0:=Ac5 w a hc;rw[(Ah.toBelow h).cell a0];exact hc
theorem ZH{w w':World}(h:Ah w w'){n:String}{cs:Array Value}(hv:w.var? prog n=some cs):w'.var? prog n=some cs:=by
 unfold World.var? at hv ⊢
 cases hg:prog.globalNamed n with
 | none=>simp[hg] at hv
 | some g=>
  simp only[hg,Ac6] at hv ⊢;have a0:g<w.heap.size:=by
   rcases Ach g w.heap.size with hl | hl
   ·exact hl
   ·rw[Array.getElem?_eq_none hl] at hv;cases hv
  rw[(Ah.toBelow h).block g a0];exact hv
theorem CT.ext{w w':World}(g:CT w)(h:Ah w w'):CT w':=
 ⟨World.ShapedOpen.keptBut g.shaped ((Ah.toBelow h).frame (λ_=>False)) (λ_ hf=>hf.elim),ZH h g.pow,
  g.syn.elim λt ht=>ht.elim λv hv=>⟨t,v,AC h hv⟩,g.rng.elim λt ht=>ht.elim λv hv=>⟨t,v,AC h hv⟩⟩
theorem Ah.drewN(w:World)(k:Nat):Ah w (w.drewN k):=⟨rfl,rfl,rfl,Abv _,λ_ _ _=>rfl⟩
theorem Ah.grow(w:World)(os:Array Obj):Ah w (Go.Sort.grow w os):=
 ⟨rfl,rfl,rfl,by simp[Go.Sort.grow],λk hk _=>by simp[Go.Sort.grow,Ad5 hk]⟩
theorem Ah.bytesWorld(w:World)(e:TypeId)(s:ByteArray):Ah w (Lib.bytesWorld w e s):=by
 refine⟨?_,?_,?_,?_,λk hk _=>?_⟩
 ·unfold Lib.bytesWorld World.freeze;split<;>rfl
 ·unfold Lib.bytesWorld World.freeze;split<;>rfl
 ·unfold Lib.bytesWorld World.freeze;split<;>rfl
 ·unfold Lib.bytesWorld World.freeze;simp
 ·unfold Lib.bytesWorld World.freeze;rw[if_neg AdV];show(Array.modify _ _ _)[k]?=_;rw[Adz,if_neg AdY];exact Below.heap_alloc _ _ _ hk
theorem FR{f:FuncId}{args:List Value}{w:World}{R:Ending→World→Prop}{Φ:Value→World→Prop}(hc:C0 prog f=true)(h:Calls prog f ⟨args⟩ w R)(hm:∀e w',R e w'→Gb Φ e w'):AN prog f args w Φ:=⟨hc,h.mono hm⟩
theorem Ml(n:Int)(h0:-9223372036854775808≤n)(h1:n≤9223372036854775807)(w:World)(g:CT w):AN prog 101 [.int .i64 n] w (λv w'=>v=Av (Lib.itoa n)∧Ah w w'):=
 FR AdX (strconv_Itoa n h0 h1 w g.pow) λe w' ⟨he,k,os,hw⟩=>⟨_,he,rfl,by subst hw;exact(Ah.drewN w k).trans (Ah.grow _ _)⟩
def Jg(l:List UInt8)(v:Value):Prop:=match Lib.atoiAll l with
 | .ok n=>v=.tuple #[.int .i64 n,.nilIface]
 | _=>∃z t x,v=.tuple #[.int .i64 z,.iface t x]
theorem HP(l:List UInt8)(hl:l.length≤1000000)(w:World)(g:CT w):AN prog 157 [Av l] w (λv w'=>Jg l v∧Ah w w'):=by
 have hs:(⟨⟨l⟩⟩:ByteArray).size=l.length:=rfl
 cases h:Lib.atoiAll l with
 | ok n=>
  refine FR AdX (strconv_Atoi_ok ⟨⟨l⟩⟩ (by rw[hs];omega) n h w) λe w' ⟨he,hw⟩=>⟨_,he,by unfold Jg;rw[h],?_⟩;rcases hw with rfl | ⟨t,rfl⟩
  ·exact Chg.refl _ _
  ·exact Ah.bytesWorld ..
 | range=>
  obtain⟨t,v,hv⟩:=g.rng
  exact FR AdX (strconv_Atoi_range ⟨⟨l⟩⟩ (by rw[hs];omega) h _ w hv (Or.inr ⟨t,v,rfl⟩)) λe w' ⟨N,he,_,_,hb⟩=>⟨_,he,by unfold Jg;rw[h];exact⟨_,_,_,rfl⟩,Ah.of_below hb⟩
 | _=>
  obtain⟨t,v,hv⟩:=g.syn;exact FR AdX (Any.strconv_Atoi_syntax laysAtoi ⟨⟨l⟩⟩ (by rw[hs];omega) h _ w hv (Or.inr ⟨t,v,rfl⟩)) λe w' ⟨N,he,_,_,hb⟩=>⟨_,he,by unfold Jg;rw[h];exact⟨_,_,_,rfl⟩,Ah.of_below hb⟩
theorem NJ(s p:List UInt8)(w:World):AN prog 302 [Av s,Av p] w (λv w'=>v=.tuple #[Av (Lib.trimPrefix s p),.bool (Lib.hasPrefix s p)]∧Ah w w'):=
 FR AdX (strings_CutPrefix ⟨⟨s⟩⟩ ⟨⟨p⟩⟩ w) λe w' ⟨he,hw⟩=>⟨_,he,rfl,by subst hw;exact Chg.refl _ _⟩
theorem Jh(s p:List UInt8)(w:World):AN prog 271 [Av s,Av p] w (λv w'=>v=.bool (Lib.hasPrefix s p)∧Ah w w'):=
 FR AdX (strings_HasPrefix ⟨⟨s⟩⟩ ⟨⟨p⟩⟩ w) λe w' ⟨he,hw⟩=>⟨_,he,rfl,by subst hw;exact Chg.refl _ _⟩
theorem Mo(s o n:List UInt8)(hs:s.length≤1000000)(ho:1≤o.length)(hn:n.length≤1000)(w:World)(g:CT w):AN prog 243 [Av s,Av o,Av n] w (λv w'=>v=Av (Lib.replaceAll s o n)∧Ah w w'):=by
 obtain⟨m,hm⟩:=(laysM143).s1_3 w g.shaped;have hc:Lib.countB ⟨⟨s⟩⟩ ⟨⟨o⟩⟩≤s.length+1:=Lib.count_le s o;have hz:Lib.countB ⟨⟨s⟩⟩ ⟨⟨o⟩⟩*n.length≤1000001*1000:=AcA AdV hn;exact FR AdX (strings_ReplaceAll ⟨⟨s⟩⟩ ⟨⟨o⟩⟩ ⟨⟨n⟩⟩ m w (show s.length<_ by omega) hm ho (show s.length+_*n.length≤_ by omega)) λe w' ⟨he,hw⟩=>⟨_,he,rfl,Ah.of_below hw⟩
theorem YO(s p:List UInt8)(hs:s.length≤1000000)(w:World)(g:CT w):AN prog 285 [Av s,Av p] w (λv w'=>v=.tuple #[Av (Lib.cut s p).1,Av (Lib.cut s p).2.1,.bool (Lib.cut s p).2.2]∧Ah w w'):=
 FR AdX (strings_Cut_shaped ⟨⟨s⟩⟩ ⟨⟨p⟩⟩ w g.shaped (show s.length<_ by omega)) λe w' ⟨he,k,hw⟩=>⟨_,he,rfl,by subst hw;exact Ah.drewN w k⟩
open Go Go.E
def Cq(c:Int):Bool:=decide (65≤c)&&decide (c≤90)
def AD(c:Int):Bool:=decide (48≤c)&&decide (c≤57)
def LN(c:Int):Bool:=Cq c||(decide (97≤c)&&decide (c≤122))
def WA(c:Int):Bool:=LN c||AD c
def DM(l:List UInt8):Bool:=decide (l≠[])&&decide (l.length≤12)&&LN (Ai l 0)&&decide (∀j,j<l.length→WA (Ai l j)=true)
theorem Td{l:List UInt8}(h:12<l.length):DM l=false:=by simp[DM];intros;omega
theorem Rj{l:List UInt8}(h:LN (Ai l 0)=false):DM l=false:=by simp[DM,h]
theorem XK{l:List UInt8}{k:Nat}(hk:k<l.length)(h:WA (Ai l k)=false):DM l=false:=by
 simp only[DM,Ad0,decide_eq_false_iff_not];exact Or.inr λhh=>by rw[hh k hk] at h;cases h
theorem Th{l:List UInt8}(h0:l≠[])(h1:l.length≤12)(h2:LN (Ai l 0)=true)(h3:∀j,j<l.length→WA (Ai l j)=true):DM l=true:=by
 simp[DM,h0,h1,h2];exact h3
def G7(n:Int):List UInt8:=
 if n<0∨701<n then[] else if n<26 then[ch (65+n)] else[ch (65+n / 26 - 1),ch (65+n % 26)]
def Cl(l:List UInt8):Option Int:=
 match l with
 | [_]=>if Cq (Ai l 0) then some (Ai l 0 - 65) else none
 | [_,_]=>if Cq (Ai l 0)&&Cq (Ai l 1) then some ((Ai l 0 - 65+1)*26+(Ai l 1 - 65)) else none
 | _=>none
def Fb(l:List UInt8):Value:=match Cl l with
 | some n=>.tuple #[.int .i64 n,.bool true]
 | none=>.tuple #[.int .i64 0,.bool false]
structure CH where
 sheet:List UInt8
 col:Int
 row:Int
 ac:Bool
 ar:Bool
deriving DecidableEq
def Dg(x:CH):List Value:=[Av x.sheet,.int .i64 x.col,.int .i64 x.row,.bool x.ac,.bool x.ar]
def Ns(x:CH):Value:=.agg ⟨[Av x.sheet,.int .i64 x.col,.int .i64 x.row,.bool x.ac,.bool x.ar]⟩
def BA(x:CH):Bool:=(decide (x.sheet=[])||DM x.sheet)&&decide (0≤x.col)&&decide (x.col≤701)&&decide (0≤x.row)&&decide (x.row≤998)
def DJ(b:Bool):List UInt8:=if b then[36] else[]
def Ce(x:CH):List UInt8:=(if x.sheet=[] then[] else x.sheet++[33])++(DJ x.ac++G7 x.col++DJ x.ar++Lib.itoa (x.row+1))
def DB(x:CH):List UInt8:=if BA x then Ce x else[]
def Aq(p:Int→Bool)(s:List UInt8):List UInt8:=s.takeWhile λc=>p c.toNat
def HK(p:Int→Bool)(s:List UInt8):List UInt8:=s.dropWhile λc=>p c.toNat
theorem Mj(p:Int→Bool):∀(s:List UInt8) (k:Nat),k≤s.length→(∀j,j<k→p (Ai s j)=true)→(k=s.length∨p (Ai s k)=false)→s.take k=Aq p s∧s.drop k=HK p s
 | [],k,hk,_,_=>by simp[Aq,HK]
 | c::s,0,_,_,h=>by
  rcases h with h | h
  ·simp at h
  ·have hc:p (c.toNat:Int)=false:=h
   simp[Aq,HK,hc]
 | c::s,k+1,hk,hall,h=>by
  have hc:p (c.toNat:Int)=true:=hall 0 AdV;have ih:=Mj p s k (by simpa using hk) (λj hj=>hall (j+1) AdV) (by
   rcases h with h | h
   ·exact Or.inl AeQ
   ·exact Or.inr h)
  simp[Aq,HK,hc] at ih ⊢;exact ih
theorem QA(s:List UInt8)(k:Nat):cut s 0 k=s.take k:=by simp[cut]
theorem G8(s:List UInt8)(k:Nat):cut s k s.length=s.drop k:=by
 unfold cut;exact AcF Aei
def HV(s:List UInt8):List UInt8:=if (Lib.cut s [33]).2.2 then(Lib.cut s [33]).1 else[]
def HC(s:List UInt8):List UInt8:=if (Lib.cut s [33]).2.2 then(Lib.cut s [33]).2.1 else s
def G6(s:List UInt8):List UInt8:=Lib.trimPrefix (HC s) [36]
def KY(s:List UInt8):List UInt8:=HK Cq (G6 s)
def My(s:List UInt8):List UInt8:=Lib.trimPrefix (KY s) [36]
theorem Ks(p:Int→Bool)(s:List UInt8):(Aq p s).length≤s.length:=by
 unfold Aq;exact(List.takeWhile_sublist _).length_le
theorem PT(p:Int→Bool)(s:List UInt8):(HK p s).length≤s.length:=by
 unfold HK;exact(List.dropWhile_sublist _).length_le
theorem Gq(s p:List UInt8):(Lib.trimPrefix s p).length≤s.length:=by
 unfold Lib.trimPrefix;split<;>simp
theorem Xb(s p:List UInt8):(Lib.cut s p).1.length≤s.length:=by
 unfold Lib.cut;split<;>simp;omega
theorem Xc(s p:List UInt8):(Lib.cut s p).2.1.length≤s.length:=by
 unfold Lib.cut;split<;>simp
theorem Lr(n:Int):(G7 n).length≤2:=by
 unfold G7;split
 ·simp
 ·split<;>simp
theorem Fy(b:Bool):(DJ b).length≤1:=by cases b<;>simp[DJ]
theorem ER(c:Int)(w:World):AN prog 149 [.int .u8 c] w (λv w'=>v=.bool (Cq c)∧Ah w w'):=by
 refine Bq func149 ntmps149 ?_;refine Sa ?_;refine Fh (λh1=>?_) λh1=>?_
 all_goals
  refine Sa ?_;refine QW.body1 rfl rfl ⟨?_,Chg.refl _ _⟩;simp[Cq,h1]
theorem Ot(c:Int)(w:World):AN prog 97 [.int .u8 c] w (λv w'=>v=.bool (AD c)∧Ah w w'):=by
 refine Bq func97 ntmps97 ?_;refine Sa ?_;refine Fh (λh1=>?_) λh1=>?_
 all_goals
  refine Sa ?_;refine QW.body1 rfl rfl ⟨?_,Chg.refl _ _⟩;simp[AD,h1]
theorem MK(c:Int)(w:World):AN prog 96 [.int .u8 c] w (λv w'=>v=.bool (LN c)∧Ah w w'):=by
 refine Bq func96 ntmps96 ?_;refine Sa ?_;refine Ar rfl rfl (ER _ _) ?_;rintro v w' ⟨rfl,hx⟩;refine Sa ?_;refine Fh (λh1=>?_) λh1=>?_
 ·refine Sa ?_;refine QW.body1 rfl rfl ⟨?_,hx⟩;simp[LN,h1]
 ·refine Sa ?_;refine Fh (λh2=>?_) λh2=>?_
  all_goals
   refine Sa ?_;refine QW.body1 rfl rfl ⟨?_,hx⟩;simp[LN,h1,h2]
theorem Qt(s:List UInt8)(w:World)(hs:s.length≤9223372036854775807):AN prog 68 [Av s] w (λv w'=>v=.bool (DM s)∧Ah w w'):=by
 refine Bq func68 ntmps68 ?_;refine Sa ?_;refine Fh (λh0=>?_) λh0=>?_
 ·have h0:s=[]:=by simpa using h0
  subst h0;refine Sa ?_;refine QW.body1 rfl rfl ⟨rfl,Chg.refl _ _⟩
 have h0:s≠[]:=by simpa using h0
 have hp:0<s.length:=AbS.2 h0;refine Sa ?_;refine Fh (λh1=>?_) λh1=>?_
 ·have h1:12<s.length:=by simp at h1;omega
  refine Sa ?_;refine QW.body1 rfl rfl ⟨by rw[Td h1],Chg.refl _ _⟩
 have h1:s.length≤12:=by simp at h1;omega
 refine Sa ?_;refine Ar rfl rfl (MK _ _) ?_;rintro v w1 ⟨rfl,hx⟩;refine Sa ?_;refine AB (λh2=>?_) λh2=>?_
 ·refine Sa ?_;refine QW.body1 rfl rfl ⟨?_,hx⟩;rw[Rj]
  simpa using h2
 have h2:LN (Ai s 0)=true:=by simpa using h2
 refine Sa ?_;refine CW.loop (ι:=Nat) (λk w'=>k≤s.length∧Ah w w'∧∀j,j<k→WA (Ai s j)=true) (λk=>[(0,Av s),(18,.int .i64 s.length),(19,.int .i64 k)]) (λk=>s.length - k) 0 ⟨by omega,hx,by omega⟩ CE ?_;rintro k w2 ⟨hk,a1,a0⟩;refine Sa ?_;refine AB (λh3=>?_) λh3=>?_
 ·have h3:k<s.length:=by simpa using h3
  refine Sa ?_;refine Ar rfl rfl (MK _ _) ?_;rintro v w3 ⟨rfl,a2⟩;refine Sa ?_;refine Fh (λh4=>?_) λh4=>?_
  ·refine Sa ?_;refine Ar rfl rfl (Ot _ _) ?_;rintro v w4 ⟨rfl,a4⟩;refine Sa ?_;refine AB (λh5=>?_) λh5=>?_
   ·refine Sa ?_;refine QW.body1 rfl rfl ⟨?_,(a1.trans a2).trans a4⟩;rw[XK h3];simp at h4 h5;simp[WA,h4,h5]
   ·refine Sa ?_;refine QW.again (k+1) ⟨by omega,(a1.trans a2).trans a4,?_⟩ CE AdV;intro j hj;by_cases a3:j=k
    ·subst a3;simp at h5;simp[WA,h5]
    ·exact a0 j AdV
  ·refine Sa ?_;refine QW.again (k+1) ⟨by omega,a1.trans a2,?_⟩ CE AdV;intro j hj;by_cases a3:j=k
   ·subst a3;simp at h4;simp[WA,h4]
   ·exact a0 j AdV
 ·have h3:k=s.length:=by simp at h3;omega
  subst h3;refine Sa ?_;refine QW.body1 rfl rfl ⟨?_,a1⟩;rw[Th h0 h1 h2 a0]
theorem Rc(b:Bool)(w:World):AN prog 274 [.bool b] w (λv w'=>v=Av (DJ b)∧Ah w w'):=by
 cases b
 all_goals
  refine Bq func274 ntmps274 ?_;refine Sa ?_;refine QW.body1 rfl rfl ⟨rfl,Chg.refl _ _⟩
theorem YN(n:Int)(h0:-9223372036854775808≤n)(h1:n≤9223372036854775807)(w:World):AN prog 275 [.int .i64 n] w (λv w'=>v=Av (G7 n)∧Ah w w'):=by
 refine Bq func275 ntmps275 ?_;refine Sa ?_;refine Fh (λh2=>?_) λh2=>?_
 ·have h2:n<0:=by simpa using h2
  refine Sa ?_;refine QW.body1 rfl rfl ⟨?_,Chg.refl _ _⟩;rw[G7,if_pos AdV]
 have h2:0≤n:=by simpa using h2
 refine Sa ?_;refine AB (λh3=>?_) λh3=>?_
 ·have h3:701<n:=by simpa using h3
  refine Sa ?_;refine QW.body1 rfl rfl ⟨?_,Chg.refl _ _⟩;rw[G7,if_pos AdV]
 have h3:n≤701:=by simpa using h3
 refine Sa ?_;refine AB (λh4=>?_) λh4=>?_
 ·have h4:n<26:=by simpa using h4
  refine Sa ?_;refine QW.body1 rfl rfl ⟨?_,Chg.refl _ _⟩;rw[G7,if_neg AdV,if_pos h4];rfl
 ·have h4:26≤n:=by simpa using h4
  refine Sa ?_;refine QW.body1 rfl rfl ⟨?_,Chg.refl _ _⟩;rw[G7,if_neg AdV,if_neg AdV];rfl
theorem LS(x:CH)(hs:x.sheet.length≤9223372036854775807)(w:World):AN prog 240 [Ns x] w (λv w'=>v=.bool (BA x)∧Ah w w'):=by
 obtain⟨sh,c,r,ac,ar⟩:=x;simp only[Ns];refine Bq func240 ntmps240 ?_;refine Sa ?_;refine De λb w1 hb hx hB=>?_;refine Sa ?_;refine Fh (λh1=>?_) λh1=>?_
 ·refine Sa ?_;refine Fh (λh2=>?_) λh2=>?_
  ·refine Sa ?_;refine Fh (λh3=>?_) λh3=>?_
   ·refine Sa ?_;refine Fh (λh4=>?_) λh4=>?_
    ·refine Sa ?_;refine QW.body1 rfl rfl ⟨?_,hx⟩;simp[BA, *]
    ·refine Sa ?_;refine QW.body1 rfl rfl ⟨?_,hx⟩;simp[BA, *]
   ·refine Sa ?_;refine QW.body1 rfl rfl ⟨?_,hx⟩;simp[BA, *]
  ·refine Sa ?_;refine QW.body1 rfl rfl ⟨?_,hx⟩;simp[BA, *]
 ·refine Sa ?_;refine Ar rfl rfl (Qt _ _ hs) ?_;rintro v w2 ⟨rfl,a0⟩;replace hB:=hB.ext a0;replace hx:=hx.trans a0;refine Sa ?_;refine Fh (λh0=>?_) λh0=>?_
  ·refine Sa ?_;refine Fh (λh2=>?_) λh2=>?_
   ·refine Sa ?_;refine Fh (λh3=>?_) λh3=>?_
    ·refine Sa ?_;refine Fh (λh4=>?_) λh4=>?_
     ·refine Sa ?_;refine QW.body1 rfl rfl ⟨?_,hx⟩;simp[BA, *]
     ·refine Sa ?_;refine QW.body1 rfl rfl ⟨?_,hx⟩;simp[BA, *]
    ·refine Sa ?_;refine QW.body1 rfl rfl ⟨?_,hx⟩;simp[BA, *]
   ·refine Sa ?_;refine QW.body1 rfl rfl ⟨?_,hx⟩;simp[BA, *]
  ·refine Sa ?_;refine QW.body1 rfl rfl ⟨?_,hx⟩;simp[BA, *]
theorem Qx(s:List UInt8)(hs:s.length≤1000000)(w:World):AN prog 288 [Av s] w (λv w'=>v=Fb s∧Ah w w'):=by
 match s,hs with
 | [],_=>
  refine Bq func288 ntmps288 ?_;refine Sa ?_
  refine QW.body2 rfl rfl rfl ⟨rfl,Chg.refl _ _⟩
 | a::b::c::l,hs=>
  simp at hs;refine Bq func288 ntmps288 ?_;refine Sa ?_;refine AB (λh=>?_) λh=>?_
  ·refine Sa ?_;refine QW.body2 rfl rfl rfl ⟨rfl,Chg.refl _ _⟩
  ·simp at h;omega
 | [a],_=>
  refine Bq func288 ntmps288 ?_;refine Sa ?_;refine CW.rounds 2 ?_;refine Sa ?_;refine Ar rfl rfl (ER _ _) ?_;rintro v w1 ⟨rfl,hx⟩;refine Sa ?_;refine AB (λh1=>?_) λh1=>?_
  ·refine Sa ?_;refine QW.body2 rfl rfl rfl ⟨?_,hx⟩;have h1:Cq (Ai [a] 0)=false:=by simpa using h1
   simp[Fb,Cl,h1]
  have h1:Cq (Ai [a] 0)=true:=by simpa using h1
  have hb:=Hb [a] 0;have a1:65≤Ai [a] 0∧Ai [a] 0≤90:=by simpa[Cq] using h1
  have e0:Ai [a] (0:Int).toNat=Ai [a] 0:=rfl;refine Sa ?_;refine QW.body2 rfl rfl rfl ⟨?_,hx⟩
  simp[Fb,Cl,h1]
 | [a,b],_=>
  refine Bq func288 ntmps288 ?_;refine Sa ?_;refine CW.rounds 3 ?_;refine Sa ?_;refine Ar rfl rfl (ER _ _) ?_;rintro v w1 ⟨rfl,hx⟩;refine Sa ?_;refine AB (λh1=>?_) λh1=>?_
  ·refine Sa ?_;refine QW.body2 rfl rfl rfl ⟨?_,hx⟩;have h1:Cq (Ai [a,b] 0)=false:=by simpa using h1
   simp[Fb,Cl,h1]
  have h1:Cq (Ai [a,b] 0)=true:=by simpa using h1
  have hb:=Hb [a,b] 0;have a1:65≤Ai [a,b] 0∧Ai [a,b] 0≤90:=by simpa[Cq] using h1
  have e0:Ai [a,b] (0:Int).toNat=Ai [a,b] 0:=rfl;refine Sa ?_;refine Ar rfl rfl (ER _ _) ?_;rintro v w2 ⟨rfl,a0⟩;refine Sa ?_;refine AB (λh3=>?_) λh3=>?_
  ·refine Sa ?_;refine QW.body2 rfl rfl rfl ⟨?_,hx.trans a0⟩;have h3:Cq (Ai [a,b] 1)=false:=by simpa using h3
   simp[Fb,Cl,h1,h3]
  have h3:Cq (Ai [a,b] 1)=true:=by simpa using h3
  have hc:=Hb [a,b] 1;have a2:65≤Ai [a,b] 1∧Ai [a,b] 1≤90:=by simpa[Cq] using h3
  have e1:Ai [a,b] (0+1:Int).toNat=Ai [a,b] 1:=rfl;refine Sa ?_;refine QW.body2 rfl rfl rfl ⟨?_,hx.trans a0⟩;simp[Fb,Cl,h1,h3]
theorem JN(x:CH)(hs:x.sheet.length≤1000)(w:World)(g:CT w) :
  AN prog 244 [Ns x] w (λv w'=>v=Av (DB x)∧Ah w w'):=by
 obtain⟨sh,c,r,ac,ar⟩:=x;simp only at hs;simp only[Ns];refine Bq func244 ntmps244 ?_;refine Sa ?_;refine De λb w1 hb hx hB=>?_;refine Sa ?_;refine Ar rfl rfl (LS ⟨sh,c,r,ac,ar⟩ (by simp only;omega) w1) ?_;rintro v w2 ⟨rfl,a0⟩;replace hB:=hB.ext a0;replace hx:=hx.trans a0;refine Sa ?_;refine AB (λh1=>?_) λh1=>?_
 ·refine Sa ?_;refine QW.body1 rfl rfl ⟨?_,hx⟩;have h1:BA ⟨sh,c,r,ac,ar⟩=false:=by simpa using h1
  simp[DB,h1]
 have h1:BA ⟨sh,c,r,ac,ar⟩=true:=by simpa using h1
 have a2:=Fy ac;have a3:=Fy ar;have a4:=Lr c;have hm:0≤c∧c≤701∧0≤r∧r≤998:=by
  simp only[BA,AaG,decide_eq_true_eq] at h1;exact⟨h1.1.1.1.2,h1.1.1.2,h1.1.2,h1.2⟩
 have a5:=Lib.itoa_length_le (r+1) AdV AdV;refine Sa ?_;refine LR ?_;refine Sq ?_;refine QL.call0 rfl rfl (λw3 _=>Rc ac w3) ?_;refine Sq ?_;refine QL.call0 rfl rfl (λw3 _=>YN c AdV AdV w3) ?_;refine Sq ?_;refine QL.call0 rfl rfl (λw3 _=>Rc ar w3) ?_;refine Sq ?_;refine QL.call0 rfl rfl (λw3 h3=>Ml (r+1) AdV AdV w3 (g.ext (hx.trans h3))) ?_;refine Sq ?_;refine QL.nil λw3 a1=>?_;replace hB:=hB.ext a1;replace hx:=hx.trans a1;refine Sa ?_;refine AB (λh2=>?_) λh2=>?_
 ·have h2:sh≠[]:=by simpa using h2
  refine Sa ?_;refine QW.body1 rfl rfl ⟨?_,hx⟩;rw[DB,if_pos h1];simp[Ce,h2]
 ·have h2:sh=[]:=by simpa using h2
  refine Sa ?_;refine QW.body1 rfl rfl ⟨?_,hx⟩;rw[DB,if_pos h1];simp[Ce,h2]
theorem RQ(s:List UInt8)(b:Nat)(w:World)(hB:Blk w b [Av s] 320):AN prog 286 [.pointer (some ⟨b,0,none⟩)] w
  (λv w'=>v=.bool (Lib.hasPrefix s [36])∧Chg [b] w w'∧Blk w' b [Av (Lib.trimPrefix s [36])] 320):=by
 refine Bq func286 ntmps286 ?_;refine Sa ?_;refine Ar rfl rfl (NJ s [36] w) ?_;rintro v w1 ⟨rfl,hx⟩;replace hB:=hB.ext hx;refine Sa ?_;refine D9 λw2 hc a0=>?_;refine Sa ?_;exact QW.body1 rfl rfl ⟨rfl,hx.chg.same hc,a0⟩
theorem Ph(p:Int→Bool)(f:Nat)(hp:∀(c:Int) (w:World),AN prog f [.int .u8 c] w (λv w'=>v=.bool (p c)∧Ah w w'))(s:List UInt8)(hs:s.length≤1000000)(b:Nat)(w:World)(hB:Blk w b [Av s] 320) :
  AN prog 287 [.pointer (some ⟨b,0,none⟩),.func (.func f) #[] #[]] w
  (λv w'=>v=Av (Aq p s)∧Chg [b] w w'∧Blk w' b [Av (HK p s)] 320):=by
 refine Bq func287 ntmps287 ?_;refine Sa ?_;refine CW.loop (ι:=Nat) (λk w'=>k≤s.length∧Ah w w'∧∀j,j<k→p (Ai s j)=true) (λk=>[(0,.pointer (some ⟨b,0,none⟩)),(1,.func (.func f) #[] #[]),(5,.int .i64 k)]) (λk=>s.length - k) 0 ⟨by omega,Chg.refl _ _,by omega⟩ CE ?_;rintro k w1 ⟨hk,hx,a0⟩;replace hB:=hB.ext hx;refine Sa ?_;refine Fh (λh1=>?_) λh1=>?_
 ·have h1:k<s.length:=by simpa using h1
  refine Sa ?_;refine LW.call (fs:=[]) (cs:=[]) rfl rfl rfl (hp _ _) ?_;rintro v w2 ⟨rfl,a3⟩;replace hB:=hB.ext a3;replace hx:=hx.trans a3;refine Sa ?_;refine AB (λh2=>?_) λh2=>?_
  ·have h2:p (Ai s k)=true:=h2;refine Sa ?_;refine QW.again (k+1) ⟨by omega,hx,?_⟩ CE AdV;intro j hj;by_cases a4:j=k
   ·subst a4;exact h2
   ·exact a0 j AdV
  ·have h2:p (Ai s k)=false:=h2;have a1:=Mj p s k hk a0 (Or.inr h2);refine Sa ?_;refine LW.slice_str (i:=0) (j:=k) rfl rfl rfl rfl ⟨_,_,rfl,rfl⟩ AdV hk rfl ?_;refine Sa ?_;refine LW.slice_str (i:=k) (j:=s.length) rfl rfl rfl ⟨_,_,rfl,rfl⟩ rfl hk AdV rfl ?_;refine Sa ?_;refine D9 λw3 hc a2=>?_;refine Sa ?_;refine QW.body1 rfl rfl ⟨?_,hx.chg.same hc,?_⟩
   ·rw[QA,a1.1]
   ·rw[←a1.2,←G8];exact a2
 ·have h1:k=s.length:=by simp at h1;omega
  have a1:=Mj p s k hk a0 (Or.inl h1);refine Sa ?_;refine LW.slice_str (i:=0) (j:=k) rfl rfl rfl rfl ⟨_,_,rfl,rfl⟩ AdV hk rfl ?_;refine Sa ?_;refine LW.slice_str (i:=k) (j:=s.length) rfl rfl rfl ⟨_,_,rfl,rfl⟩ rfl hk AdV rfl ?_;refine Sa ?_;refine D9 λw3 hc a2=>?_;refine Sa ?_;refine QW.body1 rfl rfl ⟨?_,hx.chg.same hc,?_⟩
  ·rw[QA,a1.1]
  ·rw[←a1.2,←G8];exact a2
def Nw(s:List UInt8):Option Int:=match Lib.atoiAll (Aq AD (My s)) with
 | .ok n=>some n
 | _=>none
def Ek(s:List UInt8):CH:=⟨HV s,(Cl (Aq Cq (G6 s))).getD 0,IntKind.i64.wrap ((Nw s).getD 0 - 1),Lib.hasPrefix (HC s) [36],Lib.hasPrefix (KY s) [36]⟩
def B0(s:List UInt8):Bool:=(Cl (Aq Cq (G6 s))).isSome&&(Nw s).isSome&&decide (DB (Ek s)=s)&&!decide (s=[])
def R9:CH:=⟨[],0,0,false,false⟩
def HJ(s:List UInt8):Value:=if B0 s then .tuple #[Ns (Ek s),.bool true] else .tuple #[Ns R9,.bool false]
theorem PS(s:List UInt8):Fb s=.tuple #[.int .i64 ((Cl s).getD 0),.bool (Cl s).isSome]:=by
 unfold Fb;cases Cl s<;>rfl
theorem NY(s:List UInt8):-1000000≤(Cl s).getD 0∧(Cl s).getD 0≤1000000:=by
 unfold Cl
 split
 ·rename_i a;have:=Hb [a] 0
  split<;>simp<;>omega
 ·rename_i a b;have:=Hb [a,b] 0;have:=Hb [a,b] 1
  split<;>simp<;>omega
 ·simp
theorem Qy(s:List UInt8)(hs:s.length≤1000)(w:World)(g:CT w):AN prog 269 [Av s] w (λv w'=>v=HJ s∧Ah w w'):=by
 refine Bq func269 ntmps269 ?_;refine Sa ?_;refine Bt λR w1 ay hx hR=>?_;refine Sa ?_;refine Bt λC w2 az ah hC=>?_;have b0:R<C:=by have:=hR.lt;omega
 replace hR:Blk w2 R (Dg R9) 187:=hR.ext ah;replace hC:Blk w2 C (Dg R9) 187:=hC;replace hx:=hx.trans ah;refine Sa ?_;refine De λX w3 b1 af hX=>?_;have b2:C<X:=by have:=hC.lt;omega
 replace hR:=hR.ext af;replace hC:=hC.ext af;replace hX:Blk w3 X [Av s] 320:=hX;replace hx:=hx.trans af;refine Sa ?_;refine Ar rfl rfl (YO s [33] AdV w3 (g.ext hx)) ?_;rintro v w4 ⟨rfl,ac⟩;replace hR:=hR.ext ac;replace hC:=hC.ext ac;replace hX:=hX.ext ac;replace hx:=hx.trans ac;refine Sl ?_;apply LW.nil;apply QW.then_n;refine CW.cut (ι:=Unit) (λ_ w'=>Ah w w'∧Blk w' R (Dg R9) 187∧Blk w' C [Av (HV s),.int .i64 0,.int .i64 0,.bool false,.bool false] 187∧Blk w' X [Av (HC s)] 320)
  (λ_=>[(0,Av s),(2,.pointer (some ⟨R,0,none⟩)),(3,.bool false),(4,.pointer (some ⟨C,0,none⟩)),(5,.pointer (some ⟨X,0,none⟩))]) ?_ ?_
 ·refine Sa ?_;refine AB (λh1=>?_) λh1=>?_
  ·refine Sa ?_;refine D9 λw5 ai aj=>?_;replace hR:=hR.chg ai AdY;replace hX:=hX.chg ai AdY;replace hx:=hx.step ai AdY;refine Sa ?_;refine D9 λw6 a7 ap=>?_;replace hR:=hR.chg a7 AdY;replace aj:=aj.chg a7 AdY;replace hx:=hx.step a7 AdY;refine Sa ?_;refine QW.head () ⟨hx,hR,?_,?_⟩ EP
   ·simpa[HV,h1,Dg,R9] using aj
   ·simpa[HC,h1] using ap
  ·refine Sa ?_;refine QW.head () ⟨hx,hR,?_,?_⟩ EP
   ·simpa[HV,h1,Dg,R9] using hC
   ·simpa[HC,h1] using hX
 clear hx hR hC hX ah af ac;rintro _ w5 ⟨hx,hR,hC,hX⟩;have b3:(HC s).length≤s.length:=by
  unfold HC;split
  ·exact Xc s [33]
  ·omega
 have ao:(G6 s).length≤1000:=Aci (Gq _ _) AdV;have aq:(KY s).length≤1000:=Aci (PT _ _) ao;have ar:(My s).length≤1000:=Aci (Gq _ _) aq;have b4:(Aq Cq (G6 s)).length≤1000:=Aci (Ks _ _) ao;have b5:(Aq AD (My s)).length≤1000:=Aci (Ks _ _) ar;have au:(HV s).length≤1000:=by
  unfold HV;split
  ·exact Aci (Xb s [33]) hs
  ·simp
 refine Sa ?_;refine LW.call (fs:=[.pointer (some ⟨X,0,none⟩)]) (cs:=[]) rfl rfl rfl (RQ _ X w5 hX) ?_;rintro v w6 ⟨rfl,a7,hX⟩;replace hR:=hR.chg a7 AdY;replace hC:=hC.chg a7 AdY;replace hx:=hx.step a7 AdY;refine Sa ?_;refine D9 λw7 ak hC=>?_;replace hR:=hR.chg ak AdY;replace hX:=hX.chg ak AdY;replace hx:=hx.step ak AdY;refine Sa ?_;refine LW.call (fs:=[.pointer (some ⟨X,0,none⟩)]) (cs:=[]) rfl rfl rfl (Ph Cq _ ER (G6 s) AdV X w7 hX) ?_;rintro v w8 ⟨rfl,al,hX⟩;replace hR:=hR.chg al AdY;replace hC:=hC.chg al AdY;replace hx:=hx.step al AdY;refine Sa ?_;refine Ar rfl rfl (Qx _ AdV w8) ?_;rintro v w9 ⟨rfl,ag⟩;rw[PS];replace hR:=hR.ext ag;replace hC:=hC.ext ag;replace hX:=hX.ext ag;replace hx:=hx.trans ag;refine Sa ?_;refine LW.call (fs:=[.pointer (some ⟨X,0,none⟩)]) (cs:=[]) rfl rfl rfl (RQ (KY s) X w9 hX) ?_;rintro v b6 ⟨rfl,a8,hX⟩;replace hR:=hR.chg a8 AdY;replace hC:=hC.chg a8 AdY;replace hx:=hx.step a8 AdY;refine Sa ?_;refine D9 λav a9 hC=>?_;replace hR:=hR.chg a9 AdY;replace hX:=hX.chg a9 AdY;replace hx:=hx.step a9 AdY;refine Sa ?_;refine LW.call (fs:=[.pointer (some ⟨X,0,none⟩)]) (cs:=[]) rfl rfl rfl (Ph AD _ Ot (My s) AdV X av hX) ?_;rintro v aw ⟨rfl,aa,hX⟩;replace hR:=hR.chg aa AdY;replace hC:=hC.chg aa AdY;replace hx:=hx.step aa AdY;refine Sa ?_;refine Ar rfl rfl (HP _ AdV aw (g.ext hx)) ?_;rintro v b7 ⟨hv,a6⟩;replace hR:=hR.ext a6;replace hC:=hC.ext a6;replace hX:=hX.ext a6;replace hx:=hx.trans a6;have b8:=NY (Aq Cq (G6 s))
 cases a5:Nw s with
 | some z=>
  have hv:v=.tuple #[.int .i64 z,.nilIface]:=by
   unfold Nw at a5;unfold Jg at hv
   split at a5
   ·rename_i m hm;rw[hm] at hv;simp only[Aa3] at a5;subst a5;exact hv
   ·cases a5
  subst hv;refine Sa ?_;refine LW.arith (op:=.sub) rfl rfl rfl rfl rfl ?_;refine Sa ?_;refine D9 λax a3 hC=>?_;replace hR:=hR.chg a3 AdY;replace hx:=hx.step a3 AdY;refine Sa ?_;refine D9 λam a4 hC=>?_;replace hR:=hR.chg a4 AdY;replace hx:=hx.step a4 AdY;replace hC:Blk am C (Dg (Ek s)) 187:=by
   have e:Dg (Ek s)=[Av (HV s),.int .i64 ((Cl (Aq Cq (G6 s))).getD 0),.int .i64 (IntKind.i64.wrap (z - 1)),.bool (Lib.hasPrefix (HC s) [36]),.bool (Lib.hasPrefix (KY s) [36])]:=by
    simp[Dg,Ek,a5]
   rw[e];exact hC
  refine Sa ?_
  cases an:Cl (Aq Cq (G6 s)) with
  | none=>
   have a2:B0 s=false:=by simp[B0,an]
   refine Sa ?_;refine AM λad a0 a1=>?_;refine Sa ?_;refine QW.body_ct rfl rfl a1 rfl rfl rfl rfl ⟨?_,hx.step a0 AdY⟩;rw[HJ,a2]
   rfl
  | some cz=>
   refine Sa ?_;refine Ar rfl rfl (JN (Ek s) au am (g.ext hx)) ?_;rintro v b9 ⟨rfl,ab⟩;replace hR:=hR.ext ab;replace hC:=hC.ext ab;replace hx:=hx.trans ab;refine Sa ?_;refine Fh (λh1=>?_) λh1=>?_
   ·have a2:B0 s=false:=by
     have h1:¬DB (Ek s)=s:=by simpa using h1
     simp[B0,h1]
    refine Sa ?_;refine AM λad a0 a1=>?_;refine Sa ?_;refine QW.body_ct rfl rfl a1 rfl rfl rfl rfl ⟨?_,hx.step a0 AdY⟩;rw[HJ,a2];rfl
   ·have h1:DB (Ek s)=s:=by simpa using h1
    refine Sa ?_;refine AB (λh2=>?_) λh2=>?_
    ·have a2:B0 s=false:=by
      have h2:s=[]:=by simpa using h2
      simp[B0,h2]
     refine Sa ?_;refine AM λad a0 a1=>?_;refine Sa ?_;refine QW.body_ct rfl rfl a1 rfl rfl rfl rfl ⟨?_,hx.step a0 AdY⟩;rw[HJ,a2];rfl
    ·have h2:¬s=[]:=by simpa using h2
     have ae:B0 s=true:=by simp[B0,an,a5,h1,h2]
     refine Sa ?_;refine AM λad a0 a1=>?_;refine Sa ?_;refine QW.body_ct rfl rfl a1 rfl rfl rfl rfl ⟨?_,hx.step a0 AdY⟩;rw[HJ,if_pos ae]
     rfl
 | none=>
  have hv:∃z t x,v=.tuple #[.int .i64 z,.iface t x]:=by
   unfold Nw at a5;unfold Jg at hv;cases ha:Lib.atoiAll (Aq AD (My s))<;>simp only[ha,reduceCtorEq] at a5 hv<;>exact hv
  obtain⟨z,te,xe,rfl⟩:=hv;have a2:B0 s=false:=by simp[B0,a5]
  refine Sa ?_;refine LW.arith (op:=.sub) rfl rfl rfl rfl rfl ?_;refine Sa ?_;refine D9 λax a3 hC=>?_;replace hR:=hR.chg a3 AdY;replace hx:=hx.step a3 AdY;refine Sa ?_;refine D9 λam a4 hC=>?_;replace hR:=hR.chg a4 AdY;replace hx:=hx.step a4 AdY
  cases an:Cl (Aq Cq (G6 s)) with
  | none=>
   refine Sa ?_;refine AM λad a0 a1=>?_;refine Sa ?_;refine QW.body_ct rfl rfl a1 rfl rfl rfl rfl ⟨?_,hx.step a0 AdY⟩;rw[HJ,a2]
   rfl
  | some cz=>
   refine Sa ?_;refine AM λad a0 a1=>?_;refine Sa ?_;refine QW.body_ct rfl rfl a1 rfl rfl rfl rfl ⟨?_,hx.step a0 AdY⟩;rw[HJ,a2];rfl
theorem JR{l:List UInt8}{i:Nat}{c:UInt8}(hi:i<l.length):Ai l i=(c.toNat:Int)↔l[i]?=some c:=by
 rw[Ej hi,B7 hi];constructor
 ·intro h;have:l[i].toNat=c.toNat:=AdV
  rw[AdP.1 this]
 ·intro h;simp only[Aa3] at h;rw[h]
theorem XO(s:List UInt8)(i:Nat):Lib.occAt s [33] i=decide (s[i]?=some 33):=by
 unfold Lib.occAt
 cases h:s.drop i with
 | nil=>
  have:s.length≤i:=by
   have:=congrArg List.length h;simp at this;omega
  simp[AbI this]
 | cons c r=>
  have a0:i<s.length:=by
   have:=congrArg List.length h;simp at this;omega
  have:s[i]?=some c:=by
   have:=congrArg (λl:List UInt8=>l[0]?) h
   simpa using this
  rw[this];rw[Adq];simp[List.isPrefixOf];exact eq_comm
theorem Va{s:List UInt8}{k:Nat}(hk:k<s.length)(h:Ai s k=33)(hn:∀j,j<k→Ai s j≠33):Lib.cut s [33]=(s.take k,s.drop (k+1),true):=by
 have hi:Lib.index s [33]=k:=by
  refine Lib.index_hit (λj hj=>?_) AdV ?_
  ·rw[XO,decide_eq_false_iff_not];intro hh;exact hn j hj ((JR (c:=33) AdV).2 hh)
  ·rw[XO,decide_eq_true_eq];exact(JR (c:=33) hk).1 h
 unfold Lib.cut;rw[hi,if_pos AdV];simp
theorem Xd{s:List UInt8}(hn:∀j,j<s.length→Ai s j≠33):Lib.cut s [33]=(s,[],false):=by
 have hi:Lib.index s [33]=-1:=by
  refine Lib.index_past (i:=s.length) Aei (λj hj=>?_) Aei;rw[XO,decide_eq_false_iff_not];intro hh;exact hn j hj ((JR (c:=33) hj).2 hh)
 unfold Lib.cut;rw[hi,if_neg AdV]
theorem Ya(l:List UInt8):Lib.hasPrefix l [36]=decide (0<l.length∧Ai l 0=36):=by
 cases l with
 | nil=>rfl
 | cons c r=>
  rw[Adq];have:=JR (l:=c::r) (i:=0) (c:=36) Aei;simp[Lib.hasPrefix,List.isPrefixOf];rw[show(36:Int)=(((36:UInt8).toNat:Nat):Int) from rfl,this];simp[eq_comm]
theorem YF(l:List UInt8):Lib.trimPrefix l [36]=if 0<l.length∧Ai l 0=36 then l.drop 1 else l:=by
 unfold Lib.trimPrefix;rw[Ya];simp only[decide_eq_true_eq];rfl
def d3(n:Nat):List UInt8:=
 if n<10 then[ch (48+(n:Int))] else if n<100 then[ch (48+((n / 10:Nat):Int)),ch (48+(n:Int) % 10)] else[ch (48+((n / 100:Nat):Int)),ch (48+((n / 10:Nat):Int) % 10),ch (48+(n:Int) % 10)]
theorem CK{u:Nat}(h:u<10):Lib.decDigits u=[ch (48+(u:Int))]:=by
 rw[Lib.decDigits,dif_pos h];rfl
theorem Em{u:Nat}(h:10≤u):Lib.decDigits u=Lib.decDigits (u / 10)++[ch (48+(u:Int) % 10)]:=by
 rw[Lib.decDigits,dif_neg AdV]
 congr 2
theorem AaS{n:Nat}(h:n<1000):Lib.decDigits n=d3 n:=by
 unfold d3
 split
 ·rename_i h1;exact CK h1
 ·rename_i h1;rw[Em AdV]
  split
  ·rw[CK AdV];rfl
  ·rw[Em AdV,CK AdV];have:n / 10 / 10=n / 100:=AdV
   rw[this];rfl
def Rp(n:Nat):Bool:=(d3 n).all (λc=>AD (c.toNat:Int))&&decide (0<(d3 n).length)&&decide ((d3 n).length≤3)&&decide (Lib.atoiAll (d3 n)=.ok (n:Int))
theorem Sr:∀n:Fin 1000,Rp n.val=true:=by decide +kernel
theorem Zf{z:Int}(h0:0≤z)(h1:z<1000):Lib.itoa z=d3 z.toNat:=by
 unfold Lib.itoa;rw[if_neg AdV,AaS AdV]
theorem IF{z:Int}(h0:0≤z)(h1:z<1000):(∀c∈Lib.itoa z,AD (c.toNat:Int)=true)∧0<(Lib.itoa z).length∧(Lib.itoa z).length≤3∧Lib.atoiAll (Lib.itoa z)=.ok z:=by
 have:=Sr ⟨z.toNat,by omega⟩;rw[Zf h0 h1];simp only[Rp,AaG,AcH,decide_eq_true_eq] at this;obtain⟨⟨⟨a1,a2⟩,a3⟩,a4⟩:=this;exact⟨a1,a2,a3,by rw[a4];congr 1;omega⟩
def Aaa(n:Nat):Bool:=(G7 (n:Int)).all (λc=>Cq (c.toNat:Int))&&decide (0<(G7 (n:Int)).length)&&decide (Cl (G7 (n:Int))=some (n:Int))
theorem WK:∀n:Fin 702,Aaa n.val=true:=by decide +kernel
theorem Pw{z:Int}(h0:0≤z)(h1:z≤701):(∀c∈G7 z,Cq (c.toNat:Int)=true)∧0<(G7 z).length∧Cl (G7 z)=some z:=by
 have:=WK ⟨z.toNat,by omega⟩;have e:((z.toNat:Nat):Int)=z:=AdV
 simp only[Aaa,e,AaG,AcH,decide_eq_true_eq] at this;exact⟨this.1.1,this.1.2,this.2⟩
theorem EE{r:CH}(h:BA r=true):(r.sheet=[]∨DM r.sheet=true)∧0≤r.col∧r.col≤701∧0≤r.row∧r.row≤998:=by
 simp only[BA,AaG,Acn,decide_eq_true_eq] at h;exact⟨h.1.1.1.1,h.1.1.1.2,h.1.1.2,h.1.2,h.2⟩
theorem FP{l:List UInt8}(h:DM l=true):l≠[]∧l.length≤12∧∀j,j<l.length→WA (Ai l j)=true:=by
 simp only[DM,AaG,decide_eq_true_eq] at h;exact⟨h.1.1.1,h.1.1.2,h.2⟩
def Ff(r:CH):List UInt8:=Lib.itoa (r.row+1)
def E5(r:CH):List UInt8:=DJ r.ar++Ff r
def HN(r:CH):List UInt8:=G7 r.col++E5 r
def E4(r:CH):List UInt8:=DJ r.ac++HN r
theorem YD(r:CH):Ce r=(if r.sheet=[] then[] else r.sheet++[33])++E4 r:=by
 simp[Ce,E4,HN,E5,Ff]
theorem KQ(p:Int→Bool):∀(a b:List UInt8),(∀c∈a,p (c.toNat:Int)=true)→(b=[]∨p (Ai b 0)=false)→Aq p (a++b)=a∧HK p (a++b)=b
 | [],b,_,hb=>by
  cases b with
  | nil=>simp[Aq,HK]
  | cons c r=>
   have hc:p (c.toNat:Int)=false:=by
    rcases hb with hb | hb
    ·cases hb
    ·exact hb
   simp[Aq,HK,hc]
 | c::a,b,ha,hb=>by
  have hc:=ha c Aei;obtain⟨h1,h2⟩:=KQ p a b (λd hd=>ha d (by simp[hd])) hb;simp only[Aq,HK] at h1 h2 ⊢;simp[hc,h1,h2]
theorem BP{a b:List UInt8}{j:Nat}(h:j<a.length):Ai (a++b) j=Ai a j:=by
 unfold Ai;rw[AaE,AaE,AbA h]
theorem FF{l:List UInt8}{j:Nat}(h:j<l.length):∃c∈l,Ai l j=(c.toNat:Int):=⟨l[j],Acm h,Ej h⟩
theorem TR(z:Int)(h:Cq z=true):z≠33∧z≠36∧AD z=false:=by
 simp[Cq] at h;refine⟨by omega,by omega,?_⟩;simp[AD];omega
theorem TV(z:Int)(h:AD z=true):z≠33∧z≠36∧Cq z=false:=by
 simp[AD] at h;refine⟨by omega,by omega,?_⟩;simp[Cq];omega
theorem Aay(z:Int)(h:WA z=true):z≠33∧z≠36:=by
 simp[WA,LN,Cq,AD] at h;omega
theorem Aby{r:CH}(h:BA r=true):∀c∈E4 r,(c.toNat:Int)≠33:=by
 obtain⟨_,c0,c1,r0,r1⟩:=EE h;obtain⟨hc,_,_⟩:=Pw c0 c1;obtain⟨hd,_,_,_⟩:=IF (z:=r.row+1) AdV AdV;intro c hm;have mk:∀b,c∈DJ b→(c.toNat:Int)≠33:=λb hb=>by
  cases b
  ·simp[DJ] at hb
  ·simp[DJ] at hb;subst hb;decide
 simp only[E4,HN,E5,Ff,AaC] at hm;rcases hm with hm | hm | hm | hm
 ·exact mk _ hm
 ·exact(TR _ (hc c hm)).1
 ·exact mk _ hm
 ·exact(TV _ (hd c hm)).1
theorem AaZ{r:CH}(h:BA r=true) :
  HV (Ce r)=r.sheet∧HC (Ce r)=E4 r∧Lib.hasPrefix (E4 r) [36]=r.ac∧G6 (Ce r)=HN r∧Aq Cq (HN r)=G7 r.col∧KY (Ce r)=E5 r∧
  Lib.hasPrefix (E5 r) [36]=r.ar∧My (Ce r)=Ff r∧Aq AD (Ff r)=Ff r:=by
 obtain⟨hs,c0,c1,r0,r1⟩:=EE h;obtain⟨hc,a2,_⟩:=Pw c0 c1;obtain⟨hd,a3,_,_⟩:=IF (z:=r.row+1) AdV AdV;have a4:=Aby h;have e0:HV (Ce r)=r.sheet∧HC (Ce r)=E4 r:=by
  rw[YD];by_cases a1:r.sheet=[]
  ·rw[if_pos a1,AbR];have a0:=Xd (s:=E4 r) (λj hj=>by
    obtain⟨c,hm,e⟩:=FF hj;rw[e];exact a4 c hm)
   simp[HV,HC,a0,a1]
  ·rw[if_neg a1];have hn:DM r.sheet=true:=hs.resolve_left a1;obtain⟨_,_,a5⟩:=FP hn;have a0:=Va (s:=r.sheet++[33]++E4 r) (k:=r.sheet.length) Aei
    (by
     refine(JR (c:=33) Aei).2 ?_;simp)
    (λj hj=>by
     rw[B8,BP hj];exact(Aay _ (a5 j hj)).1)
   have t1:(r.sheet++[33]++E4 r).take r.sheet.length=r.sheet:=by rw[B8,AdS]
   have t2:(r.sheet++[33]++E4 r).drop (r.sheet.length+1)=E4 r:=by
    have:(r.sheet++[33]).length=r.sheet.length+1:=Aei
    rw[←this,Ad6]
   rw[t1,t2] at a0;unfold HV HC;rw[a0];exact⟨rfl,rfl⟩
 have bcol:Ai (HN r) 0≠36:=by
  obtain⟨c,hm,e⟩:=FF a2;rw[HN,BP a2,e];exact(TR _ (hc c hm)).2.1
 have bdig:Ai (Ff r) 0≠36∧Cq (Ai (Ff r) 0)=false:=by
  obtain⟨c,hm,e⟩:=FF a3;rw[Ff,e];exact(TV _ (hd c hm)).2
 have p0:Lib.hasPrefix (E4 r) [36]=r.ac∧Lib.trimPrefix (E4 r) [36]=HN r:=by
  rw[Ya,YF]
  cases ha:r.ac with
  | true=>
   have e:E4 r=36::HN r:=by simp[E4,DJ,ha]
   have b:Ai (36::HN r) 0=36:=rfl
   rw[e];simp[b]
  | false=>
   have e:E4 r=HN r:=by simp[E4,DJ,ha]
   rw[e];simp[bcol]
 have p2:Lib.hasPrefix (E5 r) [36]=r.ar∧Lib.trimPrefix (E5 r) [36]=Ff r:=by
  rw[Ya,YF]
  cases ha:r.ar with
  | true=>
   have e:E5 r=36::Ff r:=by simp[E5,DJ,ha]
   have b:Ai (36::Ff r) 0=36:=rfl
   rw[e];simp[b]
  | false=>
   have e:E5 r=Ff r:=by simp[E5,DJ,ha]
   rw[e];simp[bdig.1]
 have a6:Cq (Ai (E5 r) 0)=false:=by
  cases ha:r.ar with
  | true=>
   have e:E5 r=36::Ff r:=by simp[E5,DJ,ha]
   rw[e];rfl
  | false=>
   have e:E5 r=Ff r:=by simp[E5,DJ,ha]
   rw[e];exact bdig.2
 have s1:=KQ Cq (G7 r.col) (E5 r) hc (Or.inr a6);have s3:=KQ AD (Ff r) [] hd (Or.inl rfl);rw[AbG] at s3;have k1:G6 (Ce r)=HN r:=by rw[G6,e0.2,p0.2]
 have k2:KY (Ce r)=E5 r:=by rw[KY,k1];exact s1.2
 exact⟨e0.1,e0.2,p0.1,k1,s1.1,k2,p2.1,by rw[My,k2,p2.2],s3.1⟩
theorem NA{r:CH}(h:BA r=true):Ce r≠[]:=by
 obtain⟨_,_,_,r0,r1⟩:=EE h;obtain⟨_,a0,_,_⟩:=IF (z:=r.row+1) AdV AdV;intro he;have:=congrArg List.length he;simp[Ce] at this;have h2:=this.2.2.2.2;rw[h2] at a0;simp at a0
theorem We{r:CH}(h:BA r=true):B0 (Ce r)=true∧Ek (Ce r)=r:=by
 obtain⟨q1,q2,q3,q4,q5,q6,q7,q8,q9⟩:=AaZ h;obtain⟨_,c0,c1,r0,r1⟩:=EE h;obtain⟨_,_,a0⟩:=Pw c0 c1;obtain⟨_,_,_,a2⟩:=IF (z:=r.row+1) AdV AdV;have a1:Nw (Ce r)=some (r.row+1):=by
  unfold Nw;rw[q8,q9,Ff,a2]
 have hv:Ek (Ce r)=r:=by
  unfold Ek;rw[q1,q4,q5,a0,a1,q2,q3,q6,q7];have:IntKind.i64.wrap ((some (r.row+1)).getD 0 - 1)=r.row:=by
   rw[AcT,show r.row+1 - 1=r.row by omega];exact YK AdV AdV
  rw[this];rfl
 refine⟨?_,hv⟩;unfold B0;rw[hv,q4,q5,a0,a1,DB,if_pos h];simp[NA h]
theorem Z1{s:List UInt8}(h:B0 s=true):BA (Ek s)=true∧Ce (Ek s)=s:=by
 simp only[B0,AaG,decide_eq_true_eq,Adh,decide_eq_false_iff_not] at h;obtain⟨⟨_,h1⟩,h2⟩:=h;unfold DB at h1
 split at h1
 ·rename_i hm;exact⟨hm,h1⟩
 ·exact absurd h1.symm h2
theorem Jl{u:Nat}(h:10≤u):Lib.decDigits u=Lib.decDigits (u / 10)++[ch (48+(u:Int) % 10)]:=by
 rw[Lib.decDigits,dif_neg AdV]
 congr 2
theorem HE{u:Nat}(h:u<10):Lib.decDigits u=[ch (48+(u:Int))]:=by
 rw[Lib.decDigits,dif_pos h];rfl
theorem Si(k:Int)(h0:0≤k)(h1:k≤9223372036854775807)(w:World):AN prog 24 [.int .i64 k] w (λv w'=>v=Av (Lib.itoa k)∧Ah w w'):=by
 obtain⟨m,rfl⟩:=Acx h0;have a2:Lib.itoa (m:Int)=Lib.decDigits m:=by unfold Lib.itoa;rw[if_neg AdV];rfl
 have a0:=Lib.itoa_length_le (m:Int) AdV h1;rw[a2] at a0;rw[a2];refine Bq func24 ntmps24 ?_;refine Sa ?_;refine CW.loop (ι:=Nat×List UInt8) (λi w'=>i.1≤m∧Ah w w'∧Lib.decDigits m=Lib.decDigits i.1++i.2) (λi=>[(0,.int .i64 (m:Int)),(3,.int .u64 (i.1:Int)),(4,Av i.2)]) (λi=>i.1) (m,[]) ⟨by simp,Chg.refl _ _,by simp⟩ CE ?_;rintro⟨u,acc⟩ w1 ⟨hu,hx,hd⟩;simp only at hu hd;have a3:acc.length≤21:=by
  have:=congrArg List.length hd;rw[B6] at this;omega
 refine Sa ?_;refine AB (λh2=>?_) λh2=>?_
 ·have h2:10≤u:=by simp at h2;omega
  refine Sa ?_;refine CF λb w2 hb a1 hB=>?_;replace hB:Blk w2 b [.int .u8 (48+(u:Int) % 10)] 5:=hB;replace hx:=hx.trans a1;refine Sa ?_;refine QW.again (u / 10,[ch (48+(u:Int) % 10)]++acc) ⟨?_,hx,?_⟩ CE ?_
  ·simp only;omega
  ·simp only;rw[hd,Jl h2];simp
  ·simp only;omega
 ·have h2:u<10:=by simp at h2;omega
  refine Sa ?_;refine CF λb w2 hb a1 hB=>?_;replace hB:Blk w2 b [.int .u8 (48+(u:Int))] 5:=hB;replace hx:=hx.trans a1;refine Sa ?_;refine QW.body1 rfl rfl ⟨?_,hx⟩;rw[hd,HE h2]
def Cv(acc:Int)(l:List UInt8):Int:=l.foldl (λa c=>10*a+((c.toNat:Int) - 48)) acc
theorem IP(acc:Int)(l:List UInt8)(c:UInt8):Cv acc (l++[c])=10*Cv acc l+((c.toNat:Int) - 48):=by simp[Cv]
theorem AaW{s:List UInt8}(h:B0 s=false):HJ s=.tuple #[Ns R9,.bool false]:=by rw[HJ,h];rfl
theorem IQ(l:List UInt8)(h:∀j,j<l.length→AD (Ai l j)=true):0≤Cv 0 l∧Cv 0 l<10 ^ l.length:=by
 have key:∀(n:Nat) (l:List UInt8),l.length=n→(∀j,j<l.length→AD (Ai l j)=true)→0≤Cv 0 l∧Cv 0 l<10 ^ n:=by
  intro n
  induction n with
  | zero=>
   intro l hl _;have:l=[]:=AbF hl
   subst this;simp[Cv]
  | succ n ih=>
   intro l hl h;have a0:l≠[]:=by intro h0;rw[h0] at hl;simp at hl
   have e:l=l.dropLast++[l.getLast a0]:=(Adb a0).symm;have a1:l.dropLast.length=n:=AdY
   have h1:=ih l.dropLast a1 (λj hj=>by
    have:=h j AdV;rw[e,BP hj] at this;exact this)
   have h2:AD (((l.getLast a0).toNat:Nat):Int)=true:=by
    have:=h n AdV;have e3:Ai l n=((l.getLast a0).toNat:Int):=by
     rw[Ej AdV]
     congr 2
     rw[List.getLast_eq_getElem]
     congr 1
     omega
    rw[e3] at this;exact this
   have h3:Cv 0 l=10*Cv 0 l.dropLast+(((l.getLast a0).toNat:Int) - 48):=by
    conv=>lhs;rw[e]
    exact IP _ _ _
   simp only[AD,AaG,decide_eq_true_eq] at h2;rw[h3,Int.pow_succ];constructor<;>omega
 exact key l.length l rfl h
def G5(c:Int):Bool:=Cq c||(decide (97≤c)&&decide (c≤122))||decide (c=36)
def K0(c:Int):Bool:=G5 c||AD c||decide (c=33)
def JG(c:Int):Bool:=decide (c=32)
def ZU(c:Int):Bool:=Cq c||AD c
def NI(l:List UInt8):Bool:=decide (l≠[])&&decide (l.length≤12)&&Cq (Ai l 0)&&decide (∀j,j<l.length→ZU (Ai l j)=true)
theorem YY:NI []=false:=rfl
theorem Xo{l:List UInt8}(h:12<l.length):NI l=false:=by simp[NI];intros;omega
theorem Vj{l:List UInt8}(h:Cq (Ai l 0)=false):NI l=false:=by simp[NI,h]
theorem Aat{l:List UInt8}{k:Nat}(hk:k<l.length)(h:ZU (Ai l k)=false):NI l=false:=by
 simp only[NI,Ad0,decide_eq_false_iff_not];exact Or.inr λhh=>by rw[hh k hk] at h;cases h
theorem Xp{l:List UInt8}(h0:l≠[])(h1:l.length≤12)(h2:Cq (Ai l 0)=true)(h3:∀j,j<l.length→ZU (Ai l j)=true):NI l=true:=by
 simp[NI,h0,h1,h2];exact h3
structure Ap where
 kind:Int
 text:List UInt8
 num:Int
 ref:CH
 at_:Int
deriving DecidableEq
def DH(x:Ap):List Value:=[.int .i64 x.kind,Av x.text,.int .i64 x.num,Av x.ref.sheet,.int .i64 x.ref.col,.int .i64 x.ref.row,.bool x.ref.ac,.bool x.ref.ar,.int .i64 x.at_]
def Bh:CH:=⟨[],0,0,false,false⟩
theorem GZ(l:List UInt8)(a k:Nat):Ai (l.drop a) k=Ai l (a+k):=by
 simp[Ai]
theorem TU{s:List UInt8}{a k:Nat}:cut s a k=(s.take k).drop a:=by rw[cut,List.drop_take]
theorem OZ(p:Int→Bool)(s:List UInt8)(a k:Nat)(ha:a≤k)(hk:k≤s.length)(hall:∀j,a≤j→j<k→p (Ai s j)=true)(h:k=s.length∨p (Ai s k)=false) :
  (s.take k).drop a=Aq p (s.drop a)∧k=a+(Aq p (s.drop a)).length:=by
 have:=Mj p (s.drop a) (k - a) AdY (λj hj=>by rw[GZ];exact hall _ AdV AdV) (by
  rcases h with h | h
  ·exact Or.inl AdY
  ·exact Or.inr (by rw[GZ,show a+(k - a)=k by omega];exact h))
 have e:(s.take k).drop a=(s.drop a).take (k - a):=by rw[List.drop_take]
 have h2:=congrArg List.length this.1;rw[e,this.1];refine⟨rfl,?_⟩;rw[←h2];simp;omega
def PH(l:List UInt8):Option (Ap×Nat):=
 let sp:=Aq AD l
 match Lib.atoiAll sp with
 | .ok z=>if Ai sp 0≠48∨sp.length=1 then some (⟨1,[],z,Bh,0⟩,sp.length) else none
 | _=>none
def I1(l:List UInt8):Option (Ap×Nat):=
 let sp:=Aq K0 l
 if B0 sp then some (⟨4,[],0,Ek sp,0⟩,sp.length) else if NI sp then some (⟨3,sp,0,Bh,0⟩,sp.length) else none
def Jk:List UInt8:=[35,82,69,70,33]
def Bp:List (List UInt8):=[[60,62],[60,61],[62,61],[43],[45],[42],[47],[38],[61],[60],[62],[40],[41],[44],[58]]
def HM(l:List UInt8):Option (Ap×Nat):=
 if Lib.hasPrefix l Jk then some (⟨6,[],0,Bh,0⟩,5) else(Bp.find? λs=>Lib.hasPrefix l s).map λs=>(⟨5,s,0,Bh,0⟩,s.length)
def AV:List UInt8→Option (List UInt8×Nat)
 | []=>none
 | [c]=>if c=34 then some ([],1) else none
 | c::d::r=>
  if c=34 then(if d=34 then(AV r).map λx=>(34::x.1,x.2+2) else some ([],1))
  else if c<32 then none else(AV (d::r)).map λx=>(c::x.1,x.2+1)
def GS(l:List UInt8):Option (Ap×Nat):=(AV (l.drop 1)).map λx=>(⟨2,x.1,0,Bh,0⟩,x.2+1)
def Dv(l:List UInt8):Option (Ap×Nat):=
 if AD (Ai l 0) then PH l else if Ai l 0=34 then GS l else if G5 (Ai l 0) then I1 l else HM l
theorem Um{l:List UInt8}{z:Int}(h:Lib.atoiAll (Aq AD l)=.ok z):PH l=if Ai (Aq AD l) 0≠48∨(Aq AD l).length=1 then some (⟨1,[],z,Bh,0⟩,(Aq AD l).length) else none:=by
 simp only[PH,h]
theorem Rm{l:List UInt8}(h:∀z,Lib.atoiAll (Aq AD l)≠.ok z):PH l=none:=by
 unfold PH
 cases e:Lib.atoiAll (Aq AD l) with
 | ok z=>exact absurd e (h z)
 | _=>simp only[e]
theorem M5{α:Type}(p:α→Bool)(d:α):∀(l:List α) (k:Nat),k<l.length→(∀j,j<k→p (l.getD j d)=false)→p (l.getD k d)=true→l.find? p=some (l.getD k d)
 | [],k,hk,_,_=>by simp at hk
 | x::r,0,_,_,h=>by
  have h:p x=true:=h
  simp[List.find?,h]
 | x::r,k+1,hk,hn,h=>by
  have h0:p x=false:=hn 0 AdV;have ih:=M5 p d r k (by simpa using hk) (λj hj=>hn (j+1) AdV) h;simp only[List.find?,h0];exact ih
theorem Ov{α:Type}(p:α→Bool)(d:α):∀(l:List α),(∀j,j<l.length→p (l.getD j d)=false)→l.find? p=none
 | [],_=>rfl
 | x::r,hn=>by
  have h0:p x=false:=hn 0 Aei;simp only[List.find?,h0];exact Ov p d r (λj hj=>hn (j+1) AdY)
theorem Nm{s p:List UInt8}(h:Lib.hasPrefix s p=true):p.length≤s.length:=(Ad7.1 h).length_le
theorem Kv{p:Int→Bool}{l:List UInt8}(hl:0<l.length)(h:p (Ai l 0)=true):0<(Aq p l).length∧Ai (Aq p l) 0=Ai l 0:=by
 cases l with
 | nil=>simp at hl
 | cons c r=>
  have hc:p (c.toNat:Int)=true:=h;simp[Aq,hc];rfl
theorem Jb(p:Int→Bool)(l:List UInt8):(Aq p l).length≤l.length:=(List.takeWhile_prefix _).length_le
theorem IA{s:List UInt8}{i:Nat}(h:i<s.length):∃c,s.drop i=c::s.drop (i+1)∧Ai s i=(c.toNat:Int):=
 ⟨s[i],AcL h,Ej h⟩
theorem YG{c:UInt8}(h:(c.toNat:Int)=34):c=34:=AdP.1 (by simpa using(by omega:c.toNat=34))
theorem Qi{c:UInt8}(h:(c.toNat:Int)≠34):c≠34:=by
 rintro rfl;exact h rfl
theorem ZG{c:UInt8}(h:(c.toNat:Int)<32):c<32:=Adc.2 (by simpa using(by omega:c.toNat<32))
theorem ZF{c:UInt8}(h:¬(c.toNat:Int)<32):¬c<32:=λhh=>h (by have:=Adc.1 hh;simp at this;omega)
theorem Y0{s:List UInt8}{i:Nat}(h:s.length≤i):AV (s.drop i)=none:=by
 rw[Acy h];rfl
theorem Y3{s:List UInt8}{i:Nat}(h:i+1<s.length)(h1:Ai s i=34)(h2:Ai s (i+1)=34):AV (s.drop i)=(AV (s.drop (i+2))).map λx=>(34::x.1,x.2+2):=by
 obtain⟨c,e,hc⟩:=IA (show i<s.length by omega);obtain⟨d,e2,hd⟩:=IA h;rw[e,e2];obtain rfl:=YG (hc.symm.trans h1);obtain rfl:=YG (hd.symm.trans h2);simp[AV]
theorem N5{s:List UInt8}{i:Nat}(h:i<s.length)(h1:Ai s i=34)(h2:i+1<s.length→Ai s (i+1)≠34):AV (s.drop i)=some ([],1):=by
 obtain⟨c,e,hc⟩:=IA h;rw[e];obtain rfl:=YG (hc.symm.trans h1);by_cases hl:i+1<s.length
 ·obtain⟨d,e2,hd⟩:=IA hl;rw[e2];have:=Qi (c:=d) (by rw[←hd];exact h2 hl);simp[AV,this]
 ·rw[Acy AdV];simp[AV]
theorem Y1{s:List UInt8}{i:Nat}(h:i<s.length)(h1:Ai s i<32):AV (s.drop i)=none:=by
 obtain⟨c,e,hc⟩:=IA h;rw[e];have h3:=ZG (c:=c) (by rw[←hc];exact h1);have h4:=Qi (c:=c) AdV
 cases s.drop (i+1) with
 | nil=>simp[AV,h4]
 | cons d r=>simp[AV,h4,h3]
theorem Z9{s:List UInt8}{i:Nat}(h:i<s.length)(h1:Ai s i≠34)(h2:¬Ai s i<32):AV (s.drop i)=(AV (s.drop (i+1))).map λx=>(ch (Ai s i)::x.1,x.2+1):=by
 obtain⟨c,e,hc⟩:=IA h;rw[e];have h3:=ZF (c:=c) (by rw[←hc];exact h2);have h4:=Qi (c:=c) (by rw[←hc];exact h1);have h5:ch (Ai s i)=c:=by rw[hc];simp[ch]
 rw[h5]
 cases s.drop (i+1) with
 | nil=>simp[AV,h4]
 | cons d r=>simp[AV,h4,h3]
def GY(s:List UInt8)(a i:Nat)(out:List UInt8):Prop:=a≤i∧AV (s.drop a)=(AV (s.drop i)).map λx=>(out++x.1,x.2+(i - a))
theorem GY.start(s:List UInt8)(a:Nat):GY s a a []:=⟨Abv _,by simp⟩
theorem GY.go{s:List UInt8}{a i j:Nat}{out:List UInt8}{c:UInt8}(h:GY s a i out)(hj:i≤j)(e:AV (s.drop i)=(AV (s.drop j)).map λx=>(c::x.1,x.2+(j - i))):GY s a j (out++[c]):=by
 refine⟨by have:=h.1;omega,?_⟩;rw[h.2,e,Option.map_map]
 congr 1
 funext x
 have:=h.1;simp;omega
def Gv(l:List UInt8)(a:Nat):Option (List Ap):=
 match _h:l.drop (Aq JG l).length with
 | []=>some [⟨0,[],0,Bh,((a+(Aq JG l).length:Nat):Int)⟩]
 | c::r=>match Dv (c::r) with
  | none=>none
  | some (t,k)=>if _hk:k=0 then none else(Gv ((c::r).drop k) (a+(Aq JG l).length+k)).map ({t with at_:=((a+(Aq JG l).length:Nat):Int)}::·)
 termination_by l.length
 decreasing_by
 have:=congrArg List.length _h;simp at this;simp;omega
def Jw(s:List UInt8):Option (List Ap):=Gv s 0
theorem GG{l:List UInt8}{a:Nat}(h:l.drop (Aq JG l).length=[]):Gv l a=some [⟨0,[],0,Bh,((a+(Aq JG l).length:Nat):Int)⟩]:=by
 rw[Gv]
 split
 ·rfl
 ·rename_i c r e;rw[h] at e;cases e
theorem Ie{l l':List UInt8}{a:Nat}(h:l.drop (Aq JG l).length=l')(hl:l'≠[])(h1:Dv l'=none):Gv l a=none:=by
 rw[Gv]
 split
 ·rename_i e;rw[h] at e;exact absurd e hl
 ·rename_i c r e;rw[h] at e;subst e;rw[h1]
theorem IG{l l':List UInt8}{a k:Nat}{t:Ap}(h:l.drop (Aq JG l).length=l')(hl:l'≠[])(h1:Dv l'=some (t,k))(hk:0<k) :
  Gv l a=(Gv (l'.drop k) (a+(Aq JG l).length+k)).map ({t with at_:=((a+(Aq JG l).length:Nat):Int)}::·):=by
 rw[Gv]
 split
 ·rename_i e;rw[h] at e;exact absurd e hl
 ·rename_i c r e;rw[h] at e;subst e;rw[h1];simp only;rw[dif_neg AdV]
theorem MZ{l:List UInt8}{t:Ap}{k:Nat}(h:PH l=some (t,k)):k=(Aq AD l).length∧t.kind=1:=by
 unfold PH at h;simp only at h
 split at h
 ·split at h
  ·simp only[Aa3,AbK] at h;exact⟨h.2.symm,by rw[←h.1]⟩
  ·cases h
 ·cases h
theorem Tq:B0 []=false:=by decide +kernel
theorem Pi{l:List UInt8}{t:Ap}{k:Nat}(h:I1 l=some (t,k)):k=(Aq K0 l).length∧0<k:=by
 unfold I1 at h;simp only at h
 split at h
 ·rename_i hr;simp only[Aa3,AbK] at h;refine⟨h.2.symm,?_⟩;rw[←h.2]
  cases e:Aq K0 l with
  | nil=>rw[e,Tq] at hr;cases hr
  | cons _ _=>simp
 ·split at h
  ·rename_i hr;simp only[Aa3,AbK] at h;refine⟨h.2.symm,?_⟩;rw[←h.2]
   cases e:Aq K0 l with
   | nil=>rw[e,YY] at hr;cases hr
   | cons _ _=>simp
  ·cases h
theorem W1{l:List UInt8}{t:Ap}{k:Nat}(h:GS l=some (t,k)):0<k:=by
 unfold GS at h
 cases e:AV (l.drop 1) with
 | none=>rw[e] at h;cases h
 | some x=>
  rw[e] at h;simp only[AbM,Aa3,AbK] at h;omega
theorem Wq{l:List UInt8}{t:Ap}{k:Nat}(h:HM l=some (t,k)):0<k:=by
 unfold HM at h
 split at h
 ·simp only[Aa3,AbK] at h;omega
 ·cases e:Bp.find? λs=>Lib.hasPrefix l s with
  | none=>rw[e] at h;cases h
  | some x=>
   rw[e] at h;simp only[AbM,Aa3,AbK] at h;have hm:=Ado e;have:∀s∈Bp,0<s.length:=AdZ
   have:=this x hm;omega
theorem GL{l:List UInt8}(hl:l≠[]){t:Ap}{k:Nat}(h:Dv l=some (t,k)):0<k:=by
 unfold Dv at h
 split at h
 ·rename_i hd;rw[(MZ h).1];exact(Kv (AbS.2 hl) hd).1
 ·split at h
  ·exact W1 h
  ·split at h
   ·exact(Pi h).2
   ·exact Wq h
theorem PW:∀(l:List UInt8) {x:List UInt8×Nat},AV l=some x→x.2≤l.length
 | [],x,h=>by simp[AV] at h
 | [c],x,h=>by
  simp only[AV] at h
  split at h
  ·simp only[Aa3] at h;subst h;simp
  ·cases h
 | c::d::r,x,h=>by
  simp only[AV] at h
  split at h
  ·split at h
   ·cases e:AV r with
    | none=>rw[e] at h;cases h
    | some y=>
     rw[e] at h;simp only[AbM,Aa3] at h;have:=PW r e;subst h;simp;omega
   ·simp only[Aa3] at h;subst h;simp
  ·split at h
   ·cases h
   ·cases e:AV (d::r) with
    | none=>rw[e] at h;cases h
    | some y=>
     rw[e] at h;simp only[AbM,Aa3] at h;have:=PW (d::r) e;subst h;simp at this ⊢;omega
theorem Ur{l:List UInt8}{t:Ap}{k:Nat}(h:Dv l=some (t,k)):k≤l.length:=by
 unfold Dv at h
 split at h
 ·rw[(MZ h).1];exact Jb _ _
 ·split at h
  ·unfold GS at h
   cases e:AV (l.drop 1) with
   | none=>rw[e] at h;cases h
   | some x=>
    rw[e] at h;simp only[AbM,Aa3,AbK] at h;have:=PW _ e
    cases l with
    | nil=>cases e
    | cons c r=>
     simp at this ⊢;omega
  ·split at h
   ·rw[(Pi h).1];exact Jb _ _
   ·unfold HM at h
    split at h
    ·rename_i hp;simp only[Aa3,AbK] at h;have:=Nm hp;have h5:Jk.length=5:=rfl;omega
    ·cases e:Bp.find? λs=>Lib.hasPrefix l s with
     | none=>rw[e] at h;cases h
     | some x=>
      rw[e] at h;simp only[AbM,Aa3,AbK] at h;have:=Nm (AdQ e);omega
theorem QX:∀(n:Nat) (l:List UInt8) (a:Nat) {out:List Ap},l.length≤n→Gv l a=some out→out.length≤l.length+1
 | n,l,a,out,hn,h=>by
  cases e:l.drop (Aq JG l).length with
  | nil=>
   rw[GG e] at h;simp only[Aa3] at h
   subst h;simp
  | cons c r=>
   have hl:=congrArg List.length e;simp at hl
   cases ho:Dv (c::r) with
   | none=>rw[Ie e Aei ho] at h;cases h
   | some x=>
    obtain⟨t,k⟩:=x;have hk:=GL Aei ho;have hk2:=Ur ho;rw[IG e Aei ho hk] at h
    cases hr:Gv ((c::r).drop k) (a+(Aq JG l).length+k) with
    | none=>rw[hr] at h;cases h
    | some y=>
     rw[hr] at h;simp only[AbM,Aa3] at h;subst h
     match n with
     | 0=>omega
     | n+1=>
      have hd:((c::r).drop k).length=r.length+1 - k:=Aei
      have:=QX n ((c::r).drop k) _ Afj hr;simp only[AaF];rw[hd] at this;omega
theorem XC{s:List UInt8}{l:List Ap}(h:Jw s=some l):l.length≤s.length+1:=QX _ s 0 (Abv _) h
def G0(s:List UInt8)(a:Nat)(out:List Ap):Prop:=Jw s=(Gv (s.drop a) a).map (out++·)
theorem G0.start(s:List UInt8):G0 s 0 []:=by simp[G0,Jw]
theorem G0.end{s:List UInt8}{a:Nat}{out:List Ap}(h:G0 s a out)(he:a+(Aq JG (s.drop a)).length=s.length):Jw s=some (out++[⟨0,[],0,Bh,(s.length:Int)⟩]):=by
 rw[h,GG (by rw[Ac2,he,AdH]),he];rfl
theorem G0.bad{s:List UInt8}{a c:Nat}{out:List Ap}(h:G0 s a out)(he:a+(Aq JG (s.drop a)).length=c)(hc:c<s.length)(h1:Dv (s.drop c)=none):Jw s=none:=by
 rw[h,Ie (l':=s.drop c) (by rw[Ac2,he]) (by intro hn;have:=congrArg List.length hn;simp at this;omega) h1];rfl
theorem G0.go{s:List UInt8}{a c k:Nat}{out:List Ap}{t:Ap}(h:G0 s a out)(he:a+(Aq JG (s.drop a)).length=c)(hc:c<s.length)(h1:Dv (s.drop c)=some (t,k)):G0 s (c+k) (out++[{t with at_:=(c:Int)}]):=by
 have a0:s.drop c≠[]:=by intro hn;have:=congrArg List.length hn;simp at this;omega
 unfold G0;rw[h,IG (l':=s.drop c) (by rw[Ac2,he]) a0 h1 (GL a0 h1),he,Ac2,Option.map_map]
 congr 1
 funext x
 simp
theorem OJ(acc:Int)(c:UInt8)(r:List UInt8):Cv acc (c::r)=Cv (10*acc+((c.toNat:Int) - 48)) r:=rfl
theorem KJ:∀(l:List UInt8) (acc:Int),0≤acc→(∀c∈l,48≤c.toNat)→acc≤Cv acc l
 | [],acc,_,_=>Adi _
 | c::r,acc,h,hd=>by
  rw[OJ];have hc:=hd c Aei;have:=KJ r (10*acc+((c.toNat:Int) - 48)) AdV (λx hx=>hd x Afi);omega
theorem Kk:∀(l:List UInt8) (acc:Nat),acc<18446744073709551616→(∀c∈l,48≤c.toNat∧c.toNat≤57)→
  Lib.parseUint10 acc l=if Cv acc l<18446744073709551616 then .ok (Cv acc l).toNat else .range
 | [],acc,h,_=>by
  have:Cv acc []=acc:=rfl;simp only[Lib.parseUint10,this];rw[if_pos AdV]
  rfl
 | c::r,acc,h,hd=>by
  have hc:=hd c Aei;have hr:∀x∈r,48≤x.toNat∧x.toNat≤57:=λx hx=>hd x Afi;have e:(10*(acc:Int)+((c.toNat:Int) - 48))=((acc*10+(c.toNat - 48):Nat):Int):=AdV
  have hm:=KJ r (10*(acc:Int)+((c.toNat:Int) - 48)) AdV (λx hx=>(hr x hx).1);simp only[Lib.parseUint10];rw[if_pos hc,OJ]
  split
  ·rw[if_neg AdV]
  ·split
   ·rw[if_neg AdV]
   ·rw[Kk r _ AdV hr,e]
theorem Q1{l:List UInt8}(h:l≠[])(hd:∀c∈l,AD (c.toNat:Int)=true):Lib.atoiAll l=if Cv 0 l≤9223372036854775807 then .ok (Cv 0 l) else .range:=by
 have a0:∀c∈l,48≤c.toNat∧c.toNat≤57:=λc hc=>by
  have:=hd c hc;simp[AD] at this;omega
 have hp:=Kk l 0 AdV a0;have hm:=KJ l 0 AdV (λc hc=>(a0 c hc).1)
 cases l with
 | nil=>exact absurd rfl h
 | cons c r=>
  have hc:=a0 c Aei;rw[Lib.atoiAll_plain c r AdV AdV];have e:Lib.parseMag (c::r)=Lib.parseUint10 0 (c::r):=by simp[Lib.parseMag]
  rw[e,hp];simp only[Int.natCast_zero] at *;by_cases h1:Cv 0 (c::r)<18446744073709551616
  ·rw[if_pos h1];simp only[Lib.signless];by_cases h2:Cv 0 (c::r)≤9223372036854775807
   ·rw[if_pos h2,if_neg AdV]
    congr 1
    omega
   ·rw[if_neg h2,if_pos AdV]
  ·rw[if_neg h1,if_neg AdV];rfl
theorem Iw(p:Int→Bool):∀(l:List UInt8),∀c∈Aq p l,p (c.toNat:Int)=true
 | [],c,hc=>by simp[Aq] at hc
 | d::r,c,hc=>by
  have ih:=Iw p r;simp only[Aq] at hc ih;cases hd:p (d.toNat:Int)
  ·simp[hd] at hc
  ·simp only[List.takeWhile_cons,hd,if_true,AaH] at hc;rcases hc with rfl | hc
   ·exact hd
   ·exact ih c hc
theorem PI{l:List UInt8}(h:Aq AD l≠[]):PH l=if Cv 0 (Aq AD l)≤9223372036854775807∧(Ai (Aq AD l) 0≠48∨(Aq AD l).length=1) then some (⟨1,[],Cv 0 (Aq AD l),Bh,0⟩,(Aq AD l).length) else none:=by
 have ha:=Q1 h (Iw AD l);by_cases h1:Cv 0 (Aq AD l)≤9223372036854775807
 ·rw[if_pos h1] at ha;rw[Um ha];simp only[h1,true_and]
 ·rw[if_neg h1] at ha;rw[Rm (by intro z hz;rw[ha] at hz;cases hz),if_neg (by intro hh;exact h1 hh.1)]
theorem Ho(c:Int)(w:World):AN prog 229 [.int .u8 c] w (λv w'=>v=.bool (AD c)∧Ah w w'):=by
 refine Bq func229 ntmps229 ?_;refine Sa ?_;refine Fh (λh1=>?_) λh1=>?_
 all_goals
  refine Sa ?_;refine QW.body1 rfl rfl ⟨?_,Chg.refl _ _⟩;simp[AD,h1]
theorem Hn(c:Int)(w:World):AN prog 267 [.int .u8 c] w (λv w'=>v=.bool (Cq c)∧Ah w w'):=by
 refine Bq func267 ntmps267 ?_;refine Sa ?_;refine Fh (λh1=>?_) λh1=>?_
 all_goals
  refine Sa ?_;refine QW.body1 rfl rfl ⟨?_,Chg.refl _ _⟩;simp[Cq,h1]
theorem Wu(c:Int)(w:World):AN prog 194 [.int .u8 c] w (λv w'=>v=.bool (JG c)∧Ah w w'):=by
 refine Bq func194 ntmps194 ?_;refine Sa ?_;refine QW.body1 rfl rfl ⟨rfl,Chg.refl _ _⟩
theorem Mv(c:Int)(w:World):AN prog 232 [.int .u8 c] w (λv w'=>v=.bool (G5 c)∧Ah w w'):=by
 refine Bq func232 ntmps232 ?_;refine Sa ?_;refine Ar rfl rfl (Hn _ _) ?_;rintro v w' ⟨rfl,hx⟩;refine Sa ?_;refine Fh (λh1=>?_) λh1=>?_
 ·refine Sa ?_;refine QW.body1 rfl rfl ⟨?_,hx⟩;simp[G5,h1]
 ·refine Sa ?_;refine Fh (λh2=>?_) λh2=>?_
  ·refine Sa ?_;refine Fh (λh3=>?_) λh3=>?_
   all_goals
    refine Sa ?_;refine QW.body1 rfl rfl ⟨?_,hx⟩;simp[G5,h1,h2,h3]
  ·refine Sa ?_;refine QW.body1 rfl rfl ⟨?_,hx⟩;simp[G5,h1,h2]
theorem TF(c:Int)(w:World):AN prog 268 [.int .u8 c] w (λv w'=>v=.bool (K0 c)∧Ah w w'):=by
 refine Bq func268 ntmps268 ?_;refine Sa ?_;refine Ar rfl rfl (Mv _ _) ?_;rintro v w1 ⟨rfl,hx⟩;refine Sa ?_;refine Fh (λh1=>?_) λh1=>?_
 ·refine Sa ?_;refine QW.body1 rfl rfl ⟨?_,hx⟩;simp[K0,h1]
 ·refine Sa ?_;refine Ar rfl rfl (Ho _ _) ?_;rintro v w2 ⟨rfl,a0⟩;replace hx:=hx.trans a0;refine Sa ?_;refine Fh (λh2=>?_) λh2=>?_
  all_goals
   refine Sa ?_;refine QW.body1 rfl rfl ⟨?_,hx⟩;simp[K0,h1,h2]
theorem Jz(p:Int→Bool)(f:Nat)(hp:∀(c:Int) (w:World),AN prog f [.int .u8 c] w (λv w'=>v=.bool (p c)∧Ah w w'))(s:List UInt8)(hs:s.length≤1000000)(a:Nat)(ha:a≤s.length)(b:Nat)(w:World)(hB:Blk w b [Av s,.int .i64 a] 255) :
  AN prog 193 [.pointer (some ⟨b,0,none⟩),.func (.func f) #[] #[]] w
  (λv w'=>v=Av (Aq p (s.drop a))∧Chg [b] w w'∧Blk w' b [Av s,.int .i64 ((a+(Aq p (s.drop a)).length:Nat):Int)] 255):=by
 refine Bq func193 ntmps193 ?_;refine Sa ?_;refine CW.loop (ι:=Nat) (λk w'=>a≤k∧k≤s.length∧Ah w w'∧∀j,a≤j→j<k→p (Ai s j)=true) (λk=>[(0,.pointer (some ⟨b,0,none⟩)),(1,.func (.func f) #[] #[]),(5,.int .i64 k)]) (λk=>s.length - k) a ⟨by omega,ha,Chg.refl _ _,by omega⟩ CE ?_;rintro k w1 ⟨a2,hk,hx,a0⟩;replace hB:=hB.ext hx;refine Sa ?_;refine Fh (λh1=>?_) λh1=>?_
 ·have h1:k<s.length:=by simpa using h1
  refine Sa ?_;refine LW.call (fs:=[]) (cs:=[]) rfl rfl rfl (hp _ _) ?_;rintro v w2 ⟨rfl,a4⟩;replace hB:=hB.ext a4;replace hx:=hx.trans a4;refine Sa ?_;refine AB (λh2=>?_) λh2=>?_
  ·have h2:p (Ai s k)=true:=h2;refine Sa ?_;refine QW.again (k+1) ⟨by omega,by omega,hx,?_⟩ CE AdV;intro j a5 hj;by_cases a6:j=k
   ·subst a6;exact h2
   ·exact a0 j a5 AdV
  ·have h2:p (Ai s k)=false:=h2;obtain⟨e1,e2⟩:=OZ p s a k a2 hk a0 (Or.inr h2);refine Sa ?_;refine LR ?_;refine Sq ?_;refine QL.slice_str (i:=a) (j:=k) rfl rfl rfl ⟨_,_,rfl,rfl⟩ ⟨_,_,rfl,rfl⟩ a2 hk rfl ?_;refine Sq ?_;refine QL.nil λw4 a1=>?_;replace hB:=hB.ext a1;replace hx:=hx.trans a1;refine Sa ?_;refine D9 λw3 hc a3=>?_;refine Sa ?_;refine QW.body1 rfl rfl ⟨?_,hx.chg.same hc,?_⟩
   ·rw[←e1,TU]
   ·rw[←e2];exact a3
 ·have h1:k=s.length:=by simp at h1;omega
  obtain⟨e1,e2⟩:=OZ p s a k a2 hk a0 (Or.inl h1);refine Sa ?_;refine LR ?_;refine Sq ?_;refine QL.slice_str (i:=a) (j:=k) rfl rfl rfl ⟨_,_,rfl,rfl⟩ ⟨_,_,rfl,rfl⟩ a2 hk rfl ?_;refine Sq ?_;refine QL.nil λw4 a1=>?_;replace hB:=hB.ext a1;replace hx:=hx.trans a1;refine Sa ?_;refine D9 λw3 hc a3=>?_;refine Sa ?_;refine QW.body1 rfl rfl ⟨?_,hx.chg.same hc,?_⟩
  ·rw[←e1,TU]
  ·rw[←e2];exact a3
def WH(s:List UInt8)(a b:Nat)(w:World)(o:Option (Ap×Nat))(v:Value)(w':World):Prop:=
 ∃t ok a',v=.tuple #[.agg ⟨DH t⟩,.bool ok]∧Chg [b] w w'∧Blk w' b [Av s,.int .i64 ((a':Nat):Int)] 255∧a'≤s.length∧a≤a'∧o=if ok then some (t,a' - a) else none
theorem _root_.Go.E.Chg.fresh{S S':List Nat}{a b c:World}(h:Chg S a b)(k:Chg S' b c)(hs:∀j,j∈S'→a.heap.size≤j):Chg S a c:=
 (Chg.trans h k).mono λj hj hl=>by
  rcases AaC.1 hj with hj | hj
  ·exact hj
  ·have:=hs j hj;omega
theorem O9(s:List UInt8)(w:World)(hs:s.length≤1000000):AN prog 270 [Av s] w (λv w'=>v=.bool (NI s)∧Ah w w'):=by
 refine Bq func270 ntmps270 ?_;refine Sa ?_;refine Fh (λh0=>?_) λh0=>?_
 ·have h0:s=[]:=by simpa using h0
  subst h0;refine Sa ?_;refine QW.body1 rfl rfl ⟨rfl,Chg.refl _ _⟩
 have h0:s≠[]:=by simpa using h0
 have hp:0<s.length:=AbS.2 h0;refine Sa ?_;refine Fh (λh1=>?_) λh1=>?_
 ·have h1:12<s.length:=by simp at h1;omega
  refine Sa ?_;refine QW.body1 rfl rfl ⟨by rw[Xo h1],Chg.refl _ _⟩
 have h1:s.length≤12:=by simp at h1;omega
 refine Sa ?_;refine Ar rfl rfl (Hn _ _) ?_;rintro v w1 ⟨rfl,hx⟩;refine Sa ?_;refine AB (λh2=>?_) λh2=>?_
 ·refine Sa ?_;refine QW.body1 rfl rfl ⟨?_,hx⟩;rw[Vj]
  simpa using h2
 have h2:Cq (Ai s 0)=true:=by simpa using h2
 refine Sa ?_;refine CW.loop (ι:=Nat) (λk w'=>k≤s.length∧Ah w w'∧∀j,j<k→ZU (Ai s j)=true) (λk=>[(0,Av s),(18,.int .i64 s.length),(19,.int .i64 k)]) (λk=>s.length - k) 0 ⟨by omega,hx,by omega⟩ CE ?_;rintro k w2 ⟨hk,a1,a0⟩;refine Sa ?_;refine AB (λh3=>?_) λh3=>?_
 ·have h3:k<s.length:=by simpa using h3
  refine Sa ?_;refine Ar rfl rfl (Hn _ _) ?_;rintro v w3 ⟨rfl,a2⟩;refine Sa ?_;refine Fh (λh4=>?_) λh4=>?_
  ·refine Sa ?_;refine Ar rfl rfl (Ho _ _) ?_;rintro v w4 ⟨rfl,a4⟩;refine Sa ?_;refine AB (λh5=>?_) λh5=>?_
   ·refine Sa ?_;refine QW.body1 rfl rfl ⟨?_,(a1.trans a2).trans a4⟩;rw[Aat h3];simp at h4 h5;simp[ZU,h4,h5]
   ·refine Sa ?_;refine QW.again (k+1) ⟨by omega,(a1.trans a2).trans a4,?_⟩ CE AdV;intro j hj;by_cases a3:j=k
    ·subst a3;simp at h5;simp[ZU,h5]
    ·exact a0 j AdV
  ·refine Sa ?_;refine QW.again (k+1) ⟨by omega,a1.trans a2,?_⟩ CE AdV;intro j hj;by_cases a3:j=k
   ·subst a3;simp at h4;simp[ZU,h4]
   ·exact a0 j AdV
 ·have h3:k=s.length:=by simp at h3;omega
  subst h3;refine Sa ?_;refine QW.body1 rfl rfl ⟨?_,a1⟩;rw[Xp h0 h1 h2 a0]
theorem Tn(s:List UInt8)(hs:s.length≤1000)(a:Nat)(ha:a<s.length)(hd:AD (Ai s a)=true)(b:Nat)(w0 w:World)(g:CT w0)(h0:Ah w0 w)(hb0:w0.heap.size≤b)(hB:Blk w b [Av s,.int .i64 a] 255) :
  AN prog 230 [.pointer (some ⟨b,0,none⟩)] w (WH s a b w (PH (s.drop a))):=by
 have a8:=Jb AD (s.drop a);have a5:(s.drop a).length=s.length - a:=Aei
 obtain⟨aa,ab⟩:=Kv (p:=AD) (l:=s.drop a) AdV (by rw[GZ];exact hd);have ac:=hB.lt;refine Bq func230 ntmps230 ?_;refine Sa ?_;refine Bt λC w1 ad hx hC=>?_;have ae:b<C:=AdV
 replace hB:=hB.ext hx;refine Sa ?_;refine LW.call (fs:=[]) (cs:=[]) rfl rfl rfl (Jz AD _ Ho s AdV a AdV b w1 hB) ?_;rintro v w2 ⟨rfl,a3,hB⟩;replace hC:=hC.chg a3 AdY;have a0:Chg [b] w w2:=(Chg.trans hx a3).mono Aei;have a9:Ah w0 w2:=(h0.trans hx).step a3 (by simpa using hb0);refine Sa ?_;refine Ar rfl rfl (HP _ AdV w2 (g.ext a9)) ?_;rintro v w3 ⟨hv,a4⟩;replace hC:=hC.ext a4;replace hB:=hB.ext a4;replace a0:=a0.ext a4;unfold Jg at hv;by_cases a6:∃z,Lib.atoiAll (Aq AD (s.drop a))=.ok z
 ·obtain⟨z,a7⟩:=a6;rw[a7] at hv;rw[Um a7];simp only at hv;subst hv;refine Sa ?_
  (first | (apply LW.eql_nil;exact rfl;exact rfl;exact rfl;exact rfl) | (apply LW.eql_nil_nil;exact rfl;exact rfl;exact rfl;exact rfl))
  refine Sa ?_;refine Fh (λh3=>?_) λh3=>?_
  ·refine Sa ?_;refine AM λw4 a1 hC=>?_;replace hC:Blk w4 C (DH ⟨1,[],z,Bh,0⟩) 203:=hC;replace hB:=hB.chg a1 AdY;replace a0:=a0.fresh a1 AdY;refine Sa ?_;refine QW.body_ct rfl rfl hC rfl rfl rfl rfl ⟨_,_,_,rfl,a0,hB,by omega,by omega,?_⟩;have h3:Ai (Aq AD (s.drop a)) 0≠48:=by simpa using h3
   simp only[h3,ne_eq,not_false_eq_true,true_or,if_true,AdI]
  ·refine Sa ?_;refine AM λw4 a1 hC=>?_;replace hC:Blk w4 C (DH ⟨1,[],z,Bh,0⟩) 203:=hC;replace hB:=hB.chg a1 AdY;replace a0:=a0.fresh a1 AdY;refine Sa ?_;refine QW.body_ct rfl rfl hC rfl rfl rfl rfl ⟨_,_,_,rfl,a0,hB,by omega,by omega,?_⟩;have h3:Ai (Aq AD (s.drop a)) 0=48:=by simpa using h3
   simp only[h3,ne_eq,not_true_eq_false,false_or,AdI,decide_eq_true_eq];by_cases h4:(Aq AD (s.drop a)).length=1
   ·simp[h4]
   ·have h5:¬((Aq AD (s.drop a)).length:Int)=1:=AdV
    simp[h4,h5]
 ·have a2:∀z,Lib.atoiAll (Aq AD (s.drop a))≠.ok z:=λz hz=>a6 ⟨z,hz⟩;rw[Rm a2];obtain⟨z,t,x,rfl⟩:∃z t x,v=.tuple #[.int .i64 z,.iface t x]:=by
   split at hv
   ·rename_i z hz;exact absurd hz (a2 z)
   ·exact hv
  refine Sa ?_
  (first | (apply LW.eql_nil;exact rfl;exact rfl;exact rfl;exact rfl) | (apply LW.eql_nil_nil;exact rfl;exact rfl;exact rfl;exact rfl))
  refine Sa ?_;refine AM λw4 a1 hC=>?_;replace hC:Blk w4 C (DH ⟨1,[],z,Bh,0⟩) 203:=hC;replace hB:=hB.chg a1 AdY;replace a0:=a0.fresh a1 AdY;refine Sa ?_;refine QW.body_ct rfl rfl hC rfl rfl rfl rfl ⟨_,_,_,rfl,a0,hB,by omega,by omega,rfl⟩
theorem YJ(s:List UInt8)(hs:s.length≤1000)(a:Nat)(ha:a<s.length)(b:Nat)(w0 w:World)(g:CT w0)(h0:Ah w0 w)(hb0:w0.heap.size≤b)(hB:Blk w b [Av s,.int .i64 a] 255) :
  AN prog 233 [.pointer (some ⟨b,0,none⟩)] w (WH s a b w (I1 (s.drop a))):=by
 have a8:=Jb K0 (s.drop a);have a7:(s.drop a).length=s.length - a:=Aei
 have ac:=hB.lt;refine Bq func233 ntmps233 ?_;refine Sa ?_;refine Bt λC w1 ad hx hC=>?_;have ae:b<C:=AdV
 replace hB:=hB.ext hx;refine Sa ?_;refine LW.call (fs:=[]) (cs:=[]) rfl rfl rfl (Jz K0 _ TF s AdV a AdV b w1 hB) ?_;rintro v w2 ⟨rfl,a4,hB⟩;replace hC:=hC.chg a4 AdY;have a0:Chg [b] w w2:=(Chg.trans hx a4).mono Aei;have a9:Ah w0 w2:=(h0.trans hx).step a4 (by simpa using hb0);refine Sa ?_;refine Ar rfl rfl (Qy _ AdV w2 (g.ext a9)) ?_;rintro v w3 ⟨rfl,a5⟩;replace hC:=hC.ext a5;replace hB:=hB.ext a5;replace a0:=a0.ext a5;have af:=a0.size
 cases hr:B0 (Aq K0 (s.drop a)) with
 | true=>
  rw[HJ,if_pos hr];refine Sa ?_;refine Bt λF w4 aa a1 hF=>?_;have ab:C<F:=by have:=hC.lt;omega
  replace hC:=hC.ext a1;replace hB:=hB.ext a1;replace a0:=a0.ext a1;refine Sa ?_;refine AM λw5 a2 hF=>?_;replace hF:Blk w5 F (Dg (Ek (Aq K0 (s.drop a)))) 187:=hF;replace hC:=hC.chg a2 AdY;replace hB:=hB.chg a2 AdY;replace a0:=a0.fresh a2 AdY;refine Sa ?_;refine AM λw6 a3 hC=>?_;replace hC:Blk w6 C (DH ⟨4,[],0,Ek (Aq K0 (s.drop a)),0⟩) 203:=hC;replace hB:=hB.chg a3 AdY;replace a0:=a0.fresh a3 AdY;refine Sa ?_;refine QW.body_ct rfl rfl hC rfl rfl rfl rfl ⟨_,_,_,rfl,a0,hB,by omega,by omega,?_⟩
  simp[I1,hr]
 | false=>
  rw[AaW hr];refine Sa ?_;refine Bt λF w4 aa a1 hF=>?_;have ab:C<F:=by have:=hC.lt;omega
  replace hC:=hC.ext a1;replace hB:=hB.ext a1;replace a0:=a0.ext a1;refine Sa ?_;refine AM λw5 a2 hF=>?_;replace hC:=hC.chg a2 AdY;replace hB:=hB.chg a2 AdY;replace a0:=a0.fresh a2 AdY;refine Sa ?_;refine Ar rfl rfl (O9 _ w5 AdV) ?_;rintro v w7 ⟨rfl,a6⟩;replace hC:=hC.ext a6;replace hB:=hB.ext a6;replace a0:=a0.ext a6;refine Sa ?_;refine AM λw6 a3 hC=>?_;replace hC:Blk w6 C (DH ⟨3,Aq K0 (s.drop a),0,Bh,0⟩) 203:=hC;replace hB:=hB.chg a3 AdY;replace a0:=a0.fresh a3 AdY;refine Sa ?_;refine QW.body_ct rfl rfl hC rfl rfl rfl rfl ⟨_,_,_,rfl,a0,hB,by omega,by omega,?_⟩;simp[I1,hr]
theorem Y9(k:Nat)(hk:k<15):(Bp.map Av)[k]?=some (Av (Bp.getD k [])):=by
 have:Bp.length=15:=rfl;simp[B7 (show k<Bp.length by omega)]
theorem Wp(s:List UInt8)(hs:s.length≤1000)(a:Nat)(ha:a<s.length)(b:Nat)(w:World)(hB:Blk w b [Av s,.int .i64 a] 255) :
  AN prog 234 [.pointer (some ⟨b,0,none⟩)] w (WH s a b w (HM (s.drop a))):=by
 have a7:(s.drop a).length=s.length - a:=Aei
 have ad:=hB.lt;refine Bq func234 ntmps234 ?_;refine Sa ?_;refine Bt λC w1 ae hx hC=>?_;have af:b<C:=AdV
 replace hB:=hB.ext hx;refine Sa ?_;refine LR ?_;refine Sq ?_;refine QL.slice_str (i:=a) (j:=s.length) rfl rfl rfl ⟨_,_,rfl,rfl⟩ rfl AdV AdV rfl ?_;refine Sq ?_;refine QL.call0 rfl rfl (λw' _=>Jh _ _ w') ?_;refine Sq ?_;refine QL.nil λw2 a5=>?_;rw[G8];replace hC:=hC.ext a5;replace hB:=hB.ext a5;replace hx:=hx.trans a5;refine Sa ?_;refine AB (λhd=>?_) λhd=>?_
 ·have ab:=Nm hd;simp only[AaF,Abz] at ab;refine Sa ?_;refine D9 λw3 a8 hB=>?_;replace hC:=hC.chg a8 AdY;have a0:Chg [b] w w3:=(Chg.trans hx a8).mono Aei;refine Sa ?_;refine AM λw4 a9 hC=>?_;replace hC:Blk w4 C (DH ⟨6,[],0,Bh,0⟩) 203:=hC;replace hB:Blk w4 b [Av s,.int .i64 ((a+5:Nat):Int)] 255:=hB.chg a9 AdY;replace a0:=a0.fresh a9 AdY;refine Sa ?_;refine QW.body_ct rfl rfl hC rfl rfl rfl rfl ⟨_,_,_,rfl,a0,hB,by omega,by omega,?_⟩;have hd:Lib.hasPrefix (s.drop a) Jk=true:=hd;simp[HM,hd]
 have hd:Lib.hasPrefix (s.drop a) Jk=false:=hd;refine Sa ?_;refine CF λA w3 ag a6 hA=>?_;replace hA:Blk w3 A (Bp.map Av) 9:=hA;have ah:C<A:=by have:=hC.lt;omega
 replace hC:=hC.ext a6;replace hB:=hB.ext a6;replace hx:=hx.trans a6;have ai:=hx.size;refine Sa ?_;refine CW.loop (ι:=Nat) (λk w'=>k≤15∧Ah w3 w'∧∀j,j<k→Lib.hasPrefix (s.drop a) (Bp.getD j [])=false) (λk=>[(0,.pointer (some ⟨b,0,none⟩)),(2,.pointer (some ⟨C,0,none⟩)),(24,.slice (some ⟨A,0,none⟩) 15 15),(25,.int .i64 15),(26,.int .i64 k)]) (λk=>15 - k) 0 ⟨by omega,Chg.refl _ _,by omega⟩ EP ?_;rintro k w5 ⟨hk,a1,a2⟩;replace hA:=hA.ext a1;replace hC:=hC.ext a1;replace hB:=hB.ext a1;replace hx:=hx.trans a1;refine Sa ?_;refine AB (λh1=>?_) λh1=>?_
 ·have h1:k<15:=by simp at h1;omega
  refine Sa ?_;refine LW.idx_slice (j:=k) rfl rfl rfl rfl rfl AdV AdY (by show 0+_*1=_;omega) rfl ?_;refine Sa ?_;refine LW.load rfl hA (Y9 k h1) rfl rfl rfl ?_;refine Sa ?_;refine LR ?_;refine Sq ?_;refine QL.slice_str (i:=a) (j:=s.length) rfl rfl rfl ⟨_,_,rfl,rfl⟩ rfl AdV AdV rfl ?_;refine Sq ?_;refine QL.call0 rfl rfl (λw' _=>Jh _ _ w') ?_;refine Sq ?_;refine QL.nil λw6 a4=>?_;rw[G8];replace hC:=hC.ext a4;replace hB:=hB.ext a4;replace hx:=hx.trans a4;replace a1:=a1.trans a4;refine Sa ?_;refine AB (λh2=>?_) λh2=>?_
  ·have h2:Lib.hasPrefix (s.drop a) (Bp.getD k [])=true:=h2;have hp:=Nm h2;refine Sa ?_;refine D9 λw7 aa hB=>?_;replace hC:=hC.chg aa AdY;have a0:Chg [b] w w7:=(Chg.trans hx aa).mono Aei;refine Sa ?_;refine AM λw8 a3 hC=>?_;replace hC:Blk w8 C (DH ⟨5,Bp.getD k [],0,Bh,0⟩) 203:=hC;replace hB:Blk w8 b [Av s,.int .i64 ((a+(Bp.getD k []).length:Nat):Int)] 255:=hB.chg a3 AdY;replace a0:=a0.fresh a3 AdY;refine Sa ?_;refine QW.body_ct rfl rfl hC rfl rfl rfl rfl ⟨_,_,_,rfl,a0,hB,by omega,by omega,?_⟩;simp only[HM,hd,M5 (λx=>Lib.hasPrefix (s.drop a) x) [] Bp k h1 a2 h2];simp
  ·have h2:Lib.hasPrefix (s.drop a) (Bp.getD k [])=false:=h2;refine Sa ?_;refine QW.again (k+1) ⟨by omega,a1,?_⟩ EP AdV;intro j hj;by_cases ac:j=k
   ·subst ac;exact h2
   ·exact a2 j AdV
 ·have h1:k=15:=by simp at h1;omega
  subst h1;refine Sa ?_;refine AM λw8 a3 hC=>?_;replace hC:Blk w8 C (DH ⟨0,[],0,Bh,0⟩) 203:=hC;replace hB:=hB.chg a3 AdY;have a0:Chg [b] w w8:=(hx.mono (S':=[b]) Aei).fresh a3 AdY;refine Sa ?_;refine QW.body_ct rfl rfl hC rfl rfl rfl rfl ⟨_,_,a,rfl,a0,hB,by omega,by omega,?_⟩;simp only[HM,hd,Ov (λx=>Lib.hasPrefix (s.drop a) x) [] Bp a2];simp
theorem Rv{w:World}{lo:Nat}{e:TypeId}{v:Value}{out:List UInt8}{z:Int}(h0:0≤z)(h1:z≤255)(h:E.Own w lo e 1 v (out.length+1) (AO out++[.int .u8 z])):E.Own w lo e 1 v (out++[ch z]).length (AO (out++[ch z])):=by
 have e1:AO (out++[ch z])=AO out++[.int .u8 z]:=by simp[AO,FG h0 h1]
 rw[e1]
 simpa using h
theorem W2(s:List UInt8)(hs:s.length≤1000)(a:Nat)(ha:a<s.length)(b:Nat)(w:World)(hB:Blk w b [Av s,.int .i64 a] 255) :
  AN prog 231 [.pointer (some ⟨b,0,none⟩)] w (WH s a b w (GS (s.drop a))):=by
 have af:=hB.lt;refine Bq func231 ntmps231 ?_;refine Sa ?_;refine Bt λC w1 ag hx hC=>?_;have ah:b<C:=AdV
 replace hB:=hB.ext hx;have ab:C<w1.heap.size:=hC.lt;have ai:=hx.size;refine Sa ?_;refine CW.loop (ι:=Nat×List UInt8×Value) (λk w'=>k.1≤s.length∧k.2.1.length≤k.1∧Ah w1 w'∧E.Own w' w1.heap.size 5 1 k.2.2 k.2.1.length (AO k.2.1)∧GY s (a+1) k.1 k.2.1) (λk=>[(0,.pointer (some ⟨b,0,none⟩)),(2,.pointer (some ⟨C,0,none⟩)),(4,k.2.2),(5,.int .i64 k.1)]) (λk=>s.length - k.1) (a+1,[],.slice none 0 0) ⟨by simp;omega,by simp,Chg.refl _ _,Own.nil _ _ _ _,GY.start _ _⟩ Bx ?_;rintro⟨i,out,v⟩ w2 ⟨hi,ho,a1,a0,a5⟩;simp only at hi ho a0 a5;show CW _ _ _ _ _ [(0,.pointer (some ⟨b,0,none⟩)),(2,.pointer (some ⟨C,0,none⟩)),(4,v),(5,.int .i64 i)] _;have aj:=a5.1;have ak:C∉Ac v:=a0.old ab;have a9:b∉Ac v:=a0.old AdV;replace hC:=hC.ext a1;replace hB:=hB.ext a1;have al:=a1.size;refine Sa ?_;refine AB (λh1=>?_) λh1=>?_
 ·have h1:i<s.length:=by simp at h1;omega
  refine Sa ?_;have aa:=Hb s i;refine Fh (λh2=>?_) λh2=>?_
  ·have h2:Ai s i=34:=by simpa using h2
   refine Sa ?_;refine Fh (λh3=>?_) λh3=>?_
   ·have h3:i+1<s.length:=by simp at h3;omega
    refine Sa ?_;refine AB (λh4=>?_) λh4=>?_
    ·have h4:Ai s (i+1)=34:=by simpa using h4
     refine Sa ?_;refine Sa ?_;refine CF λA w3 ac a7 hA=>?_;replace a0:=a0.ext a7;replace a1:=a1.trans a7;have ad:=a1.size;refine Sa ?_;refine LW.append rfl rfl rfl rfl rfl rfl a0 AdV hA rfl rfl rfl (by show(out.length+1)*2≤140737488355328;omega) rfl ?_;intro v' w4 a8 a2 ae;replace a1:=a1.step a8 (λk hk=>(a0.lt hk).1);refine Sa ?_;refine QW.again (i+2,out++[ch (Ai s i)],v') ⟨by show i+2≤_;omega,by show(out++_).length≤i+2;simp;omega,a1,Rv aa.1 AdV a2,GY.go a5 AdV ?_⟩ Bx (by show s.length - (i+2)<s.length - i;omega);rw[Y3 h3 h2 h4,show i+2 - i=2 by omega,h2];rfl
    ·have h4:i+1<s.length→Ai s (i+1)≠34:=λ_=>by simpa using h4
     refine Sa ?_;refine CW.yes rfl AeA ?_;refine Sa ?_;refine D9 λw5 a6 hB=>?_;replace hB:Blk w5 b [Av s,.int .i64 ((i+1:Nat):Int)] 255:=hB;replace hC:=hC.chg a6 AdY;have a3:Chg [b] w w5:=(Chg.trans (hx.trans a1) a6).mono Aei;replace a0:=a0.chg a6 (λj hj hb=>a9 AeO);refine Sa ?_;refine LW.string_own rfl a0 rfl rfl rfl rfl rfl rfl rfl ?_;refine Sa ?_;refine AM λw8 a4 hC=>?_;replace hC:Blk w8 C (DH ⟨2,out,0,Bh,0⟩) 203:=hC;replace hB:=hB.chg a4 AdY;replace a3:=a3.fresh a4 AdY;refine Sa ?_;refine QW.body_ct rfl rfl hC rfl rfl rfl rfl ⟨_,_,_,rfl,a3,hB,by omega,by omega,?_⟩;have e:=a5.2;rw[N5 h1 h2 h4] at e;simp only[GS,Ac2];rw[e];simp;omega
   ·have h3:¬i+1<s.length:=by simp at h3;omega
    have h4:i+1<s.length→Ai s (i+1)≠34:=λh=>absurd h h3;refine Sa ?_;refine CW.yes rfl AeA ?_;refine Sa ?_;refine D9 λw5 a6 hB=>?_;replace hB:Blk w5 b [Av s,.int .i64 ((i+1:Nat):Int)] 255:=hB;replace hC:=hC.chg a6 AdY;have a3:Chg [b] w w5:=(Chg.trans (hx.trans a1) a6).mono Aei;replace a0:=a0.chg a6 (λj hj hb=>a9 AeO);refine Sa ?_;refine LW.string_own rfl a0 rfl rfl rfl rfl rfl rfl rfl ?_;refine Sa ?_;refine AM λw8 a4 hC=>?_;replace hC:Blk w8 C (DH ⟨2,out,0,Bh,0⟩) 203:=hC;replace hB:=hB.chg a4 AdY;replace a3:=a3.fresh a4 AdY;refine Sa ?_;refine QW.body_ct rfl rfl hC rfl rfl rfl rfl ⟨_,_,_,rfl,a3,hB,by omega,by omega,?_⟩;have e:=a5.2;rw[N5 h1 h2 h4] at e;simp only[GS,Ac2];rw[e];simp;omega
  ·have h2:Ai s i≠34:=by simpa using h2
   refine Sa ?_;refine CW.no rfl AeA ?_;refine Sa ?_;refine AB (λh5=>?_) λh5=>?_
   ·have h5:Ai s i<32:=by simpa using h5
    refine Sa ?_;refine AM λw8 a4 hC=>?_;replace hC:Blk w8 C (DH ⟨0,[],0,Bh,0⟩) 203:=hC;replace hB:=hB.chg a4 AdY;have a3:Chg [b] w w8:=((hx.trans a1).mono (S':=[b]) Aei).fresh a4 AdY;refine Sa ?_;refine QW.body_ct rfl rfl hC rfl rfl rfl rfl ⟨_,_,a,rfl,a3,hB,by omega,by omega,?_⟩;have e:=a5.2;rw[Y1 (i:=i) AdV h5] at e;simp only[GS,Ac2];rw[e];simp
   ·have h5:¬Ai s i<32:=by simpa using h5
    refine Sa ?_;refine Sa ?_;refine CF λA w3 ac a7 hA=>?_;replace a0:=a0.ext a7;replace a1:=a1.trans a7;have ad:=a1.size;refine Sa ?_;refine LW.append rfl rfl rfl rfl rfl rfl a0 AdV hA rfl rfl rfl (by show(out.length+1)*2≤140737488355328;omega) rfl ?_;intro v' w4 a8 a2 ae;replace a1:=a1.step a8 (λk hk=>(a0.lt hk).1);refine Sa ?_;refine QW.again (i+1,out++[ch (Ai s i)],v') ⟨by show i+1≤_;omega,by show(out++_).length≤i+1;simp;omega,a1,Rv aa.1 AdV a2,GY.go a5 AdV ?_⟩ Bx (by show s.length - (i+1)<s.length - i;omega);rw[Z9 h1 h2 h5,show i+1 - i=1 by omega]
 ·have h1:i=s.length:=by simp at h1;omega
  refine Sa ?_;refine AM λw8 a4 hC=>?_;replace hC:Blk w8 C (DH ⟨0,[],0,Bh,0⟩) 203:=hC;replace hB:=hB.chg a4 AdY;have a3:Chg [b] w w8:=((hx.trans a1).mono (S':=[b]) Aei).fresh a4 AdY;refine Sa ?_;refine QW.body_ct rfl rfl hC rfl rfl rfl rfl ⟨_,_,a,rfl,a3,hB,by omega,by omega,?_⟩;have e:=a5.2;rw[Y0 (i:=i) AdV] at e;simp only[GS,Ac2];rw[e];simp
def byF(c:Int):Nat:=if AD c then 230 else if c=34 then 231 else if G5 c then 233 else 234
theorem Aap(c:Int)(w:World):AN prog 195 [.int .u8 c] w (λv w'=>v=.func (.func (byF c)) #[] #[]∧Ah w w'):=by
 refine Bq func195 ntmps195 ?_;refine Sa ?_;refine Ar rfl rfl (Ho _ _) ?_;rintro v w1 ⟨rfl,hx⟩;refine Sa ?_;refine AB (λh1=>?_) λh1=>?_
 ·refine Sa ?_;refine QW.body1 rfl rfl ⟨?_,hx⟩;simp[byF,h1]
 ·refine Sa ?_;refine AB (λh2=>?_) λh2=>?_
  ·have h2:c=34:=by simpa using h2
   refine Sa ?_;refine QW.body1 rfl rfl ⟨?_,hx⟩;rw[byF,h1,if_neg Aei,if_pos h2]
  ·have h2:c≠34:=by simpa using h2
   refine Sa ?_;refine Ar rfl rfl (Mv _ _) ?_;rintro v w2 ⟨rfl,a0⟩;replace hx:=hx.trans a0;refine Sa ?_;refine AB (λh3=>?_) λh3=>?_
   all_goals
    refine Sa ?_;refine QW.body1 rfl rfl ⟨?_,hx⟩;simp[byF,h1,h2,h3]
theorem Zu(s:List UInt8)(hs:s.length≤1000)(a:Nat)(ha:a<s.length)(b:Nat)(w0 w:World)(g:CT w0)(h0:Ah w0 w)(hb0:w0.heap.size≤b)(hB:Blk w b [Av s,.int .i64 a] 255) :
  AN prog (byF (Ai s a)) [.pointer (some ⟨b,0,none⟩)] w (WH s a b w (Dv (s.drop a))):=by
 have e:Ai (s.drop a) 0=Ai s a:=by rw[GZ];rfl
 unfold byF Dv;rw[e];cases h1:AD (Ai s a)
 ·by_cases h2:Ai s a=34
  ·simp only[AbZ,if_false,h2,if_true];exact W2 s hs a ha b w hB
  ·cases h3:G5 (Ai s a)
   ·simp only[AbZ,if_false,h2];exact Wp s hs a ha b w hB
   ·simp only[AbZ,if_false,h2,if_true];exact YJ s hs a ha b w0 w g h0 hb0 hB
 ·simp only[if_true];exact Tn s hs a ha h1 b w0 w g h0 hb0 hB
def Sm(s:List UInt8)(v:Value)(w:World)(lo:Nat):Prop:=
 if 300<s.length then v=.tuple #[.slice none 0 0,.int .i64 4]
 else match Jw s with
  | none=>v=.tuple #[.slice none 0 0,.int .i64 5]
  | some l=>∃sv,v=.tuple #[sv,.int .i64 0]∧E.Own w lo 203 9 sv l.length (l.flatMap DH)
theorem Uv{w:World}{lo:Nat}{e:TypeId}{v:Value}{out:List Ap}{t:Ap}(h:E.Own w lo e 9 v (out.length+1) (out.flatMap DH++DH t)):E.Own w lo e 9 v (out++[t]).length ((out++[t]).flatMap DH):=by
 simpa using h
theorem YP(s:List UInt8)(hs:s.length≤9223372036854775807)(w:World)(g:CT w):AN prog 150 [Av s] w (λv w'=>Sm s v w' w.heap.size∧Ah w w'):=by
 refine Bq func150 ntmps150 ?_;refine Sa ?_;refine AB (λh1=>?_) λh1=>?_
 ·have h1:300<s.length:=by simp at h1;omega
  refine Sa ?_;refine QW.body2 rfl rfl rfl ⟨?_,Chg.refl _ _⟩;rw[Sm,if_pos h1]
 have h1:¬300<s.length:=by simp at h1;omega
 refine Sa ?_;refine De λb w1 az hx hB=>?_;replace hB:Blk w1 b [Av s,.int .i64 ((0:Nat):Int)] 255:=hB;have al:b<w1.heap.size:=hB.lt;refine Sa ?_;refine CW.loop (ι:=Nat×List Ap×Value) (λk w'=>k.1≤s.length∧k.2.1.length≤k.1∧Ah w w'∧w1.heap.size≤w'.heap.size∧Blk w' b [Av s,.int .i64 k.1] 255∧E.Own w' w1.heap.size 203 9 k.2.2 k.2.1.length (k.2.1.flatMap DH)∧G0 s k.1 k.2.1) (λk=>[(0,Av s),(4,.pointer (some ⟨b,0,none⟩)),(5,k.2.2)]) (λk=>s.length - k.1) (0,[],.slice none 0 0) ⟨by simp,by simp,hx,Abv _,hB,Own.nil _ _ _ _,G0.start _⟩ CE ?_;rintro⟨a,out,v⟩ w2 ⟨ha,ho,am,b0,ai,a1,aa⟩;clear hB;simp only at ha ho ai a1 aa;show CW _ _ _ _ _ [(0,Av s),(4,.pointer (some ⟨b,0,none⟩)),(5,v)] _;have af:b∉Ac v:=a1.old al;refine Sa ?_;refine Ar rfl rfl (Jz JG _ Wu s AdV a AdV b w2 ai) ?_;rintro u w3 ⟨rfl,ag,aj⟩;have ah:=am.step ag AdY;have b1:=ag.size;have a3:=a1.chg ag (λj hj hb=>af AeO);generalize hc:a+(Aq JG (s.drop a)).length=c at aj;have b2:c≤s.length:=by
  have:=Jb JG (s.drop a);simp at this;omega
 refine Sa ?_;refine AB (λh2=>?_) λh2=>?_
 ·have h2:c=s.length:=by simp at h2;omega
  refine Sa ?_;refine CF λA w4 an a2 hA=>?_;replace hA:Blk w4 A (DH ⟨0,[],0,Bh,(s.length:Int)⟩) 203:=by rw[←h2];exact hA
  have ao:=a2.size;refine Sa ?_;refine LW.append rfl rfl rfl rfl rfl rfl (a3.ext a2) AdV hA rfl rfl rfl (by show(out.length+1)*81≤140737488355328;omega) rfl ?_;intro v' w5 a6 a0 _;refine Sa ?_;refine QW.body2 rfl rfl rfl ⟨?_,(ah.trans a2).step a6 (λk hk=>?_)⟩
  ·rw[Sm,if_neg h1,aa.end AdV];refine⟨_,rfl,?_⟩;obtain⟨hl,hh⟩:=Uv a0;refine⟨hl,?_⟩;rcases hh with hh | ⟨gg,cap,sp,e1,e2,e3,e4,e5⟩
   ·exact .inl hh
   ·exact .inr ⟨gg,cap,sp,e1,e2,e3,e4,by have:=hx.size;omega⟩
  ·have:=(a1.lt hk).1;have:=hx.size;omega
 have h2:c<s.length:=by simp at h2;omega
 refine Sa ?_;refine Ar rfl rfl (Aap _ _) ?_;rintro u w4 ⟨rfl,a2⟩;have ao:=a2.size;refine Sa ?_;refine LW.call (fs:=[]) (cs:=[]) rfl rfl rfl (Zu s AdV c h2 b w w4 g (ah.trans a2) AdV (aj.ext a2)) ?_;rintro u w5 ⟨t,ok,a',rfl,a6,ap,aq,b3,a7⟩;have ar:=(ah.trans a2).step a6 AdY;have b4:=a6.size;have a0:=(a3.ext a2).chg a6 (λj hj hb=>af AeO);refine Sa ?_;refine Bt λC w6 b5 ab hC=>?_;have b6:=ab.size;refine Sa ?_;refine AM λw7 ac hC=>?_;replace hC:Blk w7 C (DH t) 203:=hC;have ak:=(ar.trans ab).step ac AdY;have b7:=ac.size;have au:=(ap.ext ab).chg ac AdY;have a8:=(a0.ext ab).chg ac (λj hj hb=>by
  simp at hb;have:=(a0.lt hj).2;omega)
 refine Sa ?_
 cases ok with
 | false=>
  refine Sa ?_;refine QW.body2 rfl rfl rfl ⟨?_,ak⟩
  rw[Sm,if_neg h1,aa.bad hc h2 AeE]
 | true=>
  have a7:Dv (s.drop c)=some (t,a' - c):=by simpa using a7
  have av:=GL (by intro hn;have:=congrArg List.length hn;simp at this;omega) a7;refine Sa ?_;refine D9 λw8 ad hC=>?_;replace hC:Blk w8 C (DH {t with at_:=(c:Int)}) 203:=hC;have aw:=ak.step ad AdY;have b8:=ad.size;have ax:=au.chg ad AdY;have a9:=a8.chg ad (λj hj hb=>by
   simp at hb;have:=(a0.lt hj).2;omega)
  refine Sa ?_;refine CF λA w9 an ae hA=>?_;replace hA:Blk w9 A (DH {t with at_:=(c:Int)}) 203:=hA;have b9:=ae.size;refine Sa ?_;refine LW.append rfl rfl rfl rfl rfl rfl (a9.ext ae) AdV hA rfl rfl rfl (by show(out.length+1)*81≤140737488355328;omega) rfl ?_;intro v' ba a4 a5 _;have ay:=a4.size;refine Sa ?_;refine QW.again (a',out++[{t with at_:=(c:Int)}],v') ⟨aq,by simp;omega,?_,by omega,?_,Uv a5,?_⟩ CE (by show s.length - a'<s.length - a;omega)
  ·refine(aw.trans ae).step a4 (λk hk=>?_);have:=(a1.lt hk).1;omega
  ·exact(ax.ext ae).chg a4 af
  ·have:=aa.go hc h2 a7
   rwa [show c+(a' - c)=a' by omega] at this
end Go.Proofs.YtcjjcnecopnpcaaGreatDoor
