/-
  Joined by program out of the texts Dq Addr Ref LexL.
-/
import Derived.Test.YtcjjcnecopnpcaaGreatDoorTab
import Derived.Test.YtcjjcnecopnpcaaGreatDoorMyE
import Derived.Test.YtcjjcnecopnpcaaGreatDoorShelf
import Derived.ChangeAgain
import Derived.Lib.ItoaNum
import Derived.Lib.Strings
import Derived.Lib.IndexMore
import Derived.Lib.AtoiAll
import Derived.Lib.ItoaLen
import Derived.Lib.AtoiAllCases
namespace Go.Proofs.YtcjjcnecopnpcaaGreatDoor
open Tryz
open Go Go.E Go.RowKit
structure Dq(w:World):Prop where
 shaped:w.ShapedOpen prog
 pow : Lib.TabIs prog w "internal/strconv.uint64pow10" .u64 Lib.pow10Tab
 syn:∃t v,w.cell? ⟨0,0,none⟩=some (.iface t v)
 rng:∃t v,w.cell? ⟨1,0,none⟩=some (.iface t v)
theorem A2{w w':World}(h:Ah w w'){a:Addr}{v:Value}(hc:w.cell? a=some v):w'.cell? a=some v:=by
 have a0:=Ac3 w a hc;rw[(Ah.toBelow h).cell a0];exact hc
theorem ZI{w w':World}(h:Ah w w'){n:String}{cs:Array Value}(hv:w.var? prog n=some cs):w'.var? prog n=some cs:=by
 unfold World.var? at hv ⊢
 cases hg:prog.globalNamed n with
 | none=>simp[hg] at hv
 | some g=>
  simp only[hg,Ac4] at hv ⊢;have a0:g<w.heap.size:=by
   rcases AbW g w.heap.size with hl | hl
   ·exact hl
   ·rw[Array.getElem?_eq_none hl] at hv;cases hv
  rw[(Ah.toBelow h).block g a0];exact hv
theorem Dq.ext{w w':World}(g:Dq w)(h:Ah w w'):Dq w':=
 ⟨World.ShapedOpen.keptBut g.shaped ((Ah.toBelow h).frame (λ_=>False)) (λ_ hf=>hf.elim),ZI h g.pow,
  g.syn.elim λt ht=>ht.elim λv hv=>⟨t,v,A2 h hv⟩,g.rng.elim λt ht=>ht.elim λv hv=>⟨t,v,A2 h hv⟩⟩
theorem Ah.drewN(w:World)(k:Nat):Ah w (w.drewN k):=⟨rfl,rfl,rfl,Ab2 _,λ_ _ _=>rfl⟩
theorem Ah.grow(w:World)(os:Array Obj):Ah w (Go.Sort.grow w os):=
 ⟨rfl,rfl,rfl,by simp[Go.Sort.grow],λk hk _=>by simp[Go.Sort.grow,AdD hk]⟩
theorem Ah.bytesWorld(w:World)(e:TypeId)(s:ByteArray):Ah w (Lib.bytesWorld w e s):=by
 refine⟨?_,?_,?_,?_,λk hk _=>?_⟩
 ·unfold Lib.bytesWorld World.freeze;split<;>rfl
 ·unfold Lib.bytesWorld World.freeze;split<;>rfl
 ·unfold Lib.bytesWorld World.freeze;split<;>rfl
 ·unfold Lib.bytesWorld World.freeze;simp
 ·unfold Lib.bytesWorld World.freeze;rw[if_neg Aeb];show(Array.modify _ _ _)[k]?=_;rw[Ady,if_neg Aee];exact Below.heap_alloc _ _ _ hk
theorem Gg{f:FuncId}{args:List Value}{w:World}{R:Ending→World→Prop}{Φ:Value→World→Prop}(hc:C8 prog f=true)(h:Calls prog f ⟨args⟩ w R)(hm:∀e w',R e w'→Gr Φ e w'):A9 prog f args w Φ:=⟨hc,h.mono hm⟩
theorem MI(n:Int)(h0:-9223372036854775808≤n)(h1:n≤9223372036854775807)(w:World)(g:Dq w):A9 prog 101 [.int .i64 n] w (λv w'=>v=Aq (Lib.itoa n)∧Ah w w'):=
 Gg Aec (strconv_Itoa n h0 h1 w g.pow) λe w' ⟨he,k,os,hw⟩=>⟨_,he,rfl,by subst hw;exact(Ah.drewN w k).trans (Ah.grow _ _)⟩
def Jz(l:List UInt8)(v:Value):Prop:=match Lib.atoiAll l with
 | .ok n=>v=.tuple #[.int .i64 n,.nilIface]
 | _=>∃z t x,v=.tuple #[.int .i64 z,.iface t x]
theorem Ih(l:List UInt8)(hl:l.length≤1000000)(w:World)(g:Dq w):A9 prog 157 [Aq l] w (λv w'=>Jz l v∧Ah w w'):=by
 have hs:(⟨⟨l⟩⟩:ByteArray).size=l.length:=rfl
 cases h:Lib.atoiAll l with
 | ok n=>
  refine Gg Aec (strconv_Atoi_ok ⟨⟨l⟩⟩ (by rw[hs];omega) n h w) λe w' ⟨he,hw⟩=>⟨_,he,by unfold Jz;rw[h],?_⟩;rcases hw with rfl | ⟨t,rfl⟩
  ·exact Chg.refl _ _
  ·exact Ah.bytesWorld ..
 | range=>
  obtain⟨t,v,hv⟩:=g.rng
  exact Gg Aec (strconv_Atoi_range ⟨⟨l⟩⟩ (by rw[hs];omega) h _ w hv (Or.inr ⟨t,v,rfl⟩)) λe w' ⟨N,he,_,_,hb⟩=>⟨_,he,by unfold Jz;rw[h];exact⟨_,_,_,rfl⟩,Ah.of_below hb⟩
 | _=>
  obtain⟨t,v,hv⟩:=g.syn;exact Gg Aec (Any.strconv_Atoi_syntax laysAtoi ⟨⟨l⟩⟩ (by rw[hs];omega) h _ w hv (Or.inr ⟨t,v,rfl⟩)) λe w' ⟨N,he,_,_,hb⟩=>⟨_,he,by unfold Jz;rw[h];exact⟨_,_,_,rfl⟩,Ah.of_below hb⟩
theorem O3(s p:List UInt8)(w:World):A9 prog 302 [Aq s,Aq p] w (λv w'=>v=.tuple #[Aq (Lib.trimPrefix s p),.bool (Lib.hasPrefix s p)]∧Ah w w'):=
 Gg Aec (strings_CutPrefix ⟨⟨s⟩⟩ ⟨⟨p⟩⟩ w) λe w' ⟨he,hw⟩=>⟨_,he,rfl,by subst hw;exact Chg.refl _ _⟩
theorem J0(s p:List UInt8)(w:World):A9 prog 271 [Aq s,Aq p] w (λv w'=>v=.bool (Lib.hasPrefix s p)∧Ah w w'):=
 Gg Aec (strings_HasPrefix ⟨⟨s⟩⟩ ⟨⟨p⟩⟩ w) λe w' ⟨he,hw⟩=>⟨_,he,rfl,by subst hw;exact Chg.refl _ _⟩
theorem MM(s o n:List UInt8)(hs:s.length≤1000000)(ho:1≤o.length)(hn:n.length≤1000)(w:World)(g:Dq w):A9 prog 243 [Aq s,Aq o,Aq n] w (λv w'=>v=Aq (Lib.replaceAll s o n)∧Ah w w'):=by
 obtain⟨m,hm⟩:=(laysM143).s1_3 w g.shaped;have hc:Lib.countB ⟨⟨s⟩⟩ ⟨⟨o⟩⟩≤s.length+1:=Lib.count_le s o;have hz:Lib.countB ⟨⟨s⟩⟩ ⟨⟨o⟩⟩*n.length≤1000001*1000:=Adg Aeb hn;exact Gg Aec (strings_ReplaceAll ⟨⟨s⟩⟩ ⟨⟨o⟩⟩ ⟨⟨n⟩⟩ m w (show s.length<_ by omega) hm ho (show s.length+_*n.length≤_ by omega)) λe w' ⟨he,hw⟩=>⟨_,he,rfl,Ah.of_below hw⟩
theorem Za(s p:List UInt8)(hs:s.length≤1000000)(w:World)(g:Dq w):A9 prog 285 [Aq s,Aq p] w (λv w'=>v=.tuple #[Aq (Lib.cut s p).1,Aq (Lib.cut s p).2.1,.bool (Lib.cut s p).2.2]∧Ah w w'):=
 Gg Aec (strings_Cut_shaped ⟨⟨s⟩⟩ ⟨⟨p⟩⟩ w g.shaped (show s.length<_ by omega)) λe w' ⟨he,k,hw⟩=>⟨_,he,rfl,by subst hw;exact Ah.drewN w k⟩
open Go Go.E
def AQ(c:Int):Bool:=decide (65≤c)&&decide (c≤90)
def Ar(c:Int):Bool:=decide (48≤c)&&decide (c≤57)
def Fx(c:Int):Bool:=AQ c||(decide (97≤c)&&decide (c≤122))
def Tp(c:Int):Bool:=Fx c||Ar c
def D5(l:List UInt8):Bool:=decide (l≠[])&&decide (l.length≤12)&&Fx (Ab l 0)&&decide (∀j,j<l.length→Tp (Ab l j)=true)
theorem N5{l:List UInt8}(h:12<l.length):D5 l=false:=by simp[D5];intros;omega
theorem Mf{l:List UInt8}(h:Fx (Ab l 0)=false):D5 l=false:=by simp[D5,h]
theorem RP{l:List UInt8}{k:Nat}(hk:k<l.length)(h:Tp (Ab l k)=false):D5 l=false:=by
 simp only[D5,Adz,decide_eq_false_iff_not];exact Or.inr λhh=>by rw[hh k hk] at h;cases h
theorem N6{l:List UInt8}(h0:l≠[])(h1:l.length≤12)(h2:Fx (Ab l 0)=true)(h3:∀j,j<l.length→Tp (Ab l j)=true):D5 l=true:=by
 simp[D5,h0,h1,h2];exact h3
def Fu(n:Int):List UInt8:=
 if n<0∨701<n then[] else if n<26 then[ch (65+n)] else[ch (65+n / 26 - 1),ch (65+n % 26)]
def AL(l:List UInt8):Option Int:=
 match l with
 | [_]=>if AQ (Ab l 0) then some (Ab l 0 - 65) else none
 | [_,_]=>if AQ (Ab l 0)&&AQ (Ab l 1) then some ((Ab l 0 - 65+1)*26+(Ab l 1 - 65)) else none
 | _=>none
def CH(l:List UInt8):Value:=match AL l with
 | some n=>.tuple #[.int .i64 n,.bool true]
 | none=>.tuple #[.int .i64 0,.bool false]
structure C3 where
 sheet:List UInt8
 col:Int
 row:Int
 ac:Bool
 ar:Bool
deriving DecidableEq
def AU(x:C3):List Value:=[Aq x.sheet,.int .i64 x.col,.int .i64 x.row,.bool x.ac,.bool x.ar]
def JR(x:C3):Value:=.agg ⟨[Aq x.sheet,.int .i64 x.col,.int .i64 x.row,.bool x.ac,.bool x.ar]⟩
def AZ(x:C3):Bool:=(decide (x.sheet=[])||D5 x.sheet)&&decide (0≤x.col)&&decide (x.col≤701)&&decide (0≤x.row)&&decide (x.row≤998)
def D4(b:Bool):List UInt8:=if b then[36] else[]
def BG(x:C3):List UInt8:=(if x.sheet=[] then[] else x.sheet++[33])++(D4 x.ac++Fu x.col++D4 x.ar++Lib.itoa (x.row+1))
def Cl(x:C3):List UInt8:=if AZ x then BG x else[]
def Ak(p:Int→Bool)(s:List UInt8):List UInt8:=s.takeWhile λc=>p c.toNat
def HV(p:Int→Bool)(s:List UInt8):List UInt8:=s.dropWhile λc=>p c.toNat
theorem KG(p:Int→Bool):∀(s:List UInt8) (k:Nat),k≤s.length→(∀j,j<k→p (Ab s j)=true)→(k=s.length∨p (Ab s k)=false)→s.take k=Ak p s∧s.drop k=HV p s
 | [],k,hk,_,_=>by simp[Ak,HV]
 | c::s,0,_,_,h=>by
  rcases h with h | h
  ·simp at h
  ·have hc:p (c.toNat:Int)=false:=h
   simp[Ak,HV,hc]
 | c::s,k+1,hk,hall,h=>by
  have hc:p (c.toNat:Int)=true:=hall 0 Aeb;have ih:=KG p s k (by simpa using hk) (λj hj=>hall (j+1) Aeb) (by
   rcases h with h | h
   ·exact Or.inl AeQ
   ·exact Or.inr h)
  simp[Ak,HV,hc] at ih ⊢;exact ih
theorem MZ(s:List UInt8)(k:Nat):cut s 0 k=s.take k:=by simp[cut]
theorem EZ(s:List UInt8)(k:Nat):cut s k s.length=s.drop k:=by
 unfold cut;exact Acq Aej
def CU(s:List UInt8):List UInt8:=if (Lib.cut s [33]).2.2 then(Lib.cut s [33]).1 else[]
def C9(s:List UInt8):List UInt8:=if (Lib.cut s [33]).2.2 then(Lib.cut s [33]).2.1 else s
def Cf(s:List UInt8):List UInt8:=Lib.trimPrefix (C9 s) [36]
def Ds(s:List UInt8):List UInt8:=HV AQ (Cf s)
def Cq(s:List UInt8):List UInt8:=Lib.trimPrefix (Ds s) [36]
theorem KF(p:Int→Bool)(s:List UInt8):(Ak p s).length≤s.length:=by
 unfold Ak;exact(List.takeWhile_sublist _).length_le
theorem Q4(p:Int→Bool)(s:List UInt8):(HV p s).length≤s.length:=by
 unfold HV;exact(List.dropWhile_sublist _).length_le
theorem G9(s p:List UInt8):(Lib.trimPrefix s p).length≤s.length:=by
 unfold Lib.trimPrefix;split<;>simp
theorem Rg(s p:List UInt8):(Lib.cut s p).1.length≤s.length:=by
 unfold Lib.cut;split<;>simp;omega
theorem XA(s p:List UInt8):(Lib.cut s p).2.1.length≤s.length:=by
 unfold Lib.cut;split<;>simp
theorem Ir(n:Int):(Fu n).length≤2:=by
 unfold Fu;split
 ·simp
 ·split<;>simp
theorem F8(b:Bool):(D4 b).length≤1:=by cases b<;>simp[D4]
theorem EX(c:Int)(w:World):A9 prog 149 [.int .u8 c] w (λv w'=>v=.bool (AQ c)∧Ah w w'):=by
 refine AG func149 ntmps149 ?_;refine Sa ?_;refine B8 (λh1=>?_) λh1=>?_
 all_goals
  refine Sa ?_;refine QW.body1 rfl rfl ⟨?_,Chg.refl _ _⟩;simp[AQ,h1]
theorem OP(c:Int)(w:World):A9 prog 97 [.int .u8 c] w (λv w'=>v=.bool (Ar c)∧Ah w w'):=by
 refine AG func97 ntmps97 ?_;refine Sa ?_;refine B8 (λh1=>?_) λh1=>?_
 all_goals
  refine Sa ?_;refine QW.body1 rfl rfl ⟨?_,Chg.refl _ _⟩;simp[Ar,h1]
theorem Nw(c:Int)(w:World):A9 prog 96 [.int .u8 c] w (λv w'=>v=.bool (Fx c)∧Ah w w'):=by
 refine AG func96 ntmps96 ?_;refine Sa ?_;refine Ap rfl rfl (EX _ _) ?_;rintro v w' ⟨rfl,hx⟩;refine Sa ?_;refine B8 (λh1=>?_) λh1=>?_
 ·refine Sa ?_;refine QW.body1 rfl rfl ⟨?_,hx⟩;simp[Fx,h1]
 ·refine Sa ?_;refine B8 (λh2=>?_) λh2=>?_
  all_goals
   refine Sa ?_;refine QW.body1 rfl rfl ⟨?_,hx⟩;simp[Fx,h1,h2]
theorem QM(s:List UInt8)(w:World)(hs:s.length≤9223372036854775807):A9 prog 68 [Aq s] w (λv w'=>v=.bool (D5 s)∧Ah w w'):=by
 refine AG func68 ntmps68 ?_;refine Sa ?_;refine B8 (λh0=>?_) λh0=>?_
 ·have h0:s=[]:=by simpa using h0
  subst h0;refine Sa ?_;refine QW.body1 rfl rfl ⟨rfl,Chg.refl _ _⟩
 have h0:s≠[]:=by simpa using h0
 have hp:0<s.length:=AbB.2 h0;refine Sa ?_;refine B8 (λh1=>?_) λh1=>?_
 ·have h1:12<s.length:=by simp at h1;omega
  refine Sa ?_;refine QW.body1 rfl rfl ⟨by rw[N5 h1],Chg.refl _ _⟩
 have h1:s.length≤12:=by simp at h1;omega
 refine Sa ?_;refine Ap rfl rfl (Nw _ _) ?_;rintro v w1 ⟨rfl,hx⟩;refine Sa ?_;refine Av (λh2=>?_) λh2=>?_
 ·refine Sa ?_;refine QW.body1 rfl rfl ⟨?_,hx⟩;rw[Mf]
  simpa using h2
 have h2:Fx (Ab s 0)=true:=by simpa using h2
 refine Sa ?_;refine CW.loop (ι:=Nat) (λk w'=>k≤s.length∧Ah w w'∧∀j,j<k→Tp (Ab s j)=true) (λk=>[(0,Aq s),(18,.int .i64 s.length),(19,.int .i64 k)]) (λk=>s.length - k) 0 ⟨by omega,hx,by omega⟩ Bp ?_;rintro k w2 ⟨hk,a1,a0⟩;refine Sa ?_;refine Av (λh3=>?_) λh3=>?_
 ·have h3:k<s.length:=by simpa using h3
  refine Sa ?_;refine Ap rfl rfl (Nw _ _) ?_;rintro v w3 ⟨rfl,a2⟩;refine Sa ?_;refine B8 (λh4=>?_) λh4=>?_
  ·refine Sa ?_;refine Ap rfl rfl (OP _ _) ?_;rintro v w4 ⟨rfl,a4⟩;refine Sa ?_;refine Av (λh5=>?_) λh5=>?_
   ·refine Sa ?_;refine QW.body1 rfl rfl ⟨?_,(a1.trans a2).trans a4⟩;rw[RP h3];simp at h4 h5;simp[Tp,h4,h5]
   ·refine Sa ?_;refine QW.again (k+1) ⟨by omega,(a1.trans a2).trans a4,?_⟩ Bp Aeb;intro j hj;by_cases a3:j=k
    ·subst a3;simp at h5;simp[Tp,h5]
    ·exact a0 j Aeb
  ·refine Sa ?_;refine QW.again (k+1) ⟨by omega,a1.trans a2,?_⟩ Bp Aeb;intro j hj;by_cases a3:j=k
   ·subst a3;simp at h4;simp[Tp,h4]
   ·exact a0 j Aeb
 ·have h3:k=s.length:=by simp at h3;omega
  subst h3;refine Sa ?_;refine QW.body1 rfl rfl ⟨?_,a1⟩;rw[N6 h0 h1 h2 a0]
theorem R9(b:Bool)(w:World):A9 prog 274 [.bool b] w (λv w'=>v=Aq (D4 b)∧Ah w w'):=by
 cases b
 all_goals
  refine AG func274 ntmps274 ?_;refine Sa ?_;refine QW.body1 rfl rfl ⟨rfl,Chg.refl _ _⟩
theorem YZ(n:Int)(h0:-9223372036854775808≤n)(h1:n≤9223372036854775807)(w:World):A9 prog 275 [.int .i64 n] w (λv w'=>v=Aq (Fu n)∧Ah w w'):=by
 refine AG func275 ntmps275 ?_;refine Sa ?_;refine B8 (λh2=>?_) λh2=>?_
 ·have h2:n<0:=by simpa using h2
  refine Sa ?_;refine QW.body1 rfl rfl ⟨?_,Chg.refl _ _⟩;rw[Fu,if_pos Aeb]
 have h2:0≤n:=by simpa using h2
 refine Sa ?_;refine Av (λh3=>?_) λh3=>?_
 ·have h3:701<n:=by simpa using h3
  refine Sa ?_;refine QW.body1 rfl rfl ⟨?_,Chg.refl _ _⟩;rw[Fu,if_pos Aeb]
 have h3:n≤701:=by simpa using h3
 refine Sa ?_;refine Av (λh4=>?_) λh4=>?_
 ·have h4:n<26:=by simpa using h4
  refine Sa ?_;refine QW.body1 rfl rfl ⟨?_,Chg.refl _ _⟩;rw[Fu,if_neg Aeb,if_pos h4];rfl
 ·have h4:26≤n:=by simpa using h4
  refine Sa ?_;refine QW.body1 rfl rfl ⟨?_,Chg.refl _ _⟩;rw[Fu,if_neg Aeb,if_neg Aeb];rfl
theorem Mw(x:C3)(hs:x.sheet.length≤9223372036854775807)(w:World):A9 prog 240 [JR x] w (λv w'=>v=.bool (AZ x)∧Ah w w'):=by
 obtain⟨sh,c,r,ac,ar⟩:=x;simp only[JR];refine AG func240 ntmps240 ?_;refine Sa ?_;refine C0 λb w1 hb hx hB=>?_;refine Sa ?_;refine B8 (λh1=>?_) λh1=>?_
 ·refine Sa ?_;refine B8 (λh2=>?_) λh2=>?_
  ·refine Sa ?_;refine B8 (λh3=>?_) λh3=>?_
   ·refine Sa ?_;refine B8 (λh4=>?_) λh4=>?_
    ·refine Sa ?_;refine QW.body1 rfl rfl ⟨?_,hx⟩;simp[AZ, *]
    ·refine Sa ?_;refine QW.body1 rfl rfl ⟨?_,hx⟩;simp[AZ, *]
   ·refine Sa ?_;refine QW.body1 rfl rfl ⟨?_,hx⟩;simp[AZ, *]
  ·refine Sa ?_;refine QW.body1 rfl rfl ⟨?_,hx⟩;simp[AZ, *]
 ·refine Sa ?_;refine Ap rfl rfl (QM _ _ hs) ?_;rintro v w2 ⟨rfl,a0⟩;replace hB:=hB.ext a0;replace hx:=hx.trans a0;refine Sa ?_;refine B8 (λh0=>?_) λh0=>?_
  ·refine Sa ?_;refine B8 (λh2=>?_) λh2=>?_
   ·refine Sa ?_;refine B8 (λh3=>?_) λh3=>?_
    ·refine Sa ?_;refine B8 (λh4=>?_) λh4=>?_
     ·refine Sa ?_;refine QW.body1 rfl rfl ⟨?_,hx⟩;simp[AZ, *]
     ·refine Sa ?_;refine QW.body1 rfl rfl ⟨?_,hx⟩;simp[AZ, *]
    ·refine Sa ?_;refine QW.body1 rfl rfl ⟨?_,hx⟩;simp[AZ, *]
   ·refine Sa ?_;refine QW.body1 rfl rfl ⟨?_,hx⟩;simp[AZ, *]
  ·refine Sa ?_;refine QW.body1 rfl rfl ⟨?_,hx⟩;simp[AZ, *]
theorem QO(s:List UInt8)(hs:s.length≤1000000)(w:World):A9 prog 288 [Aq s] w (λv w'=>v=CH s∧Ah w w'):=by
 match s,hs with
 | [],_=>
  refine AG func288 ntmps288 ?_;refine Sa ?_
  refine QW.body2 rfl rfl rfl ⟨rfl,Chg.refl _ _⟩
 | a::b::c::l,hs=>
  simp at hs;refine AG func288 ntmps288 ?_;refine Sa ?_;refine Av (λh=>?_) λh=>?_
  ·refine Sa ?_;refine QW.body2 rfl rfl rfl ⟨rfl,Chg.refl _ _⟩
  ·simp at h;omega
 | [a],_=>
  refine AG func288 ntmps288 ?_;refine Sa ?_;refine CW.rounds 2 ?_;refine Sa ?_;refine Ap rfl rfl (EX _ _) ?_;rintro v w1 ⟨rfl,hx⟩;refine Sa ?_;refine Av (λh1=>?_) λh1=>?_
  ·refine Sa ?_;refine QW.body2 rfl rfl rfl ⟨?_,hx⟩;have h1:AQ (Ab [a] 0)=false:=by simpa using h1
   simp[CH,AL,h1]
  have h1:AQ (Ab [a] 0)=true:=by simpa using h1
  have hb:=CQ [a] 0;have a1:65≤Ab [a] 0∧Ab [a] 0≤90:=by simpa[AQ] using h1
  have e0:Ab [a] (0:Int).toNat=Ab [a] 0:=rfl;refine Sa ?_;refine QW.body2 rfl rfl rfl ⟨?_,hx⟩
  simp[CH,AL,h1]
 | [a,b],_=>
  refine AG func288 ntmps288 ?_;refine Sa ?_;refine CW.rounds 3 ?_;refine Sa ?_;refine Ap rfl rfl (EX _ _) ?_;rintro v w1 ⟨rfl,hx⟩;refine Sa ?_;refine Av (λh1=>?_) λh1=>?_
  ·refine Sa ?_;refine QW.body2 rfl rfl rfl ⟨?_,hx⟩;have h1:AQ (Ab [a,b] 0)=false:=by simpa using h1
   simp[CH,AL,h1]
  have h1:AQ (Ab [a,b] 0)=true:=by simpa using h1
  have hb:=CQ [a,b] 0;have a1:65≤Ab [a,b] 0∧Ab [a,b] 0≤90:=by simpa[AQ] using h1
  have e0:Ab [a,b] (0:Int).toNat=Ab [a,b] 0:=rfl;refine Sa ?_;refine Ap rfl rfl (EX _ _) ?_;rintro v w2 ⟨rfl,a0⟩;refine Sa ?_;refine Av (λh3=>?_) λh3=>?_
  ·refine Sa ?_;refine QW.body2 rfl rfl rfl ⟨?_,hx.trans a0⟩;have h3:AQ (Ab [a,b] 1)=false:=by simpa using h3
   simp[CH,AL,h1,h3]
  have h3:AQ (Ab [a,b] 1)=true:=by simpa using h3
  have hc:=CQ [a,b] 1;have a2:65≤Ab [a,b] 1∧Ab [a,b] 1≤90:=by simpa[AQ] using h3
  have e1:Ab [a,b] (0+1:Int).toNat=Ab [a,b] 1:=rfl;refine Sa ?_;refine QW.body2 rfl rfl rfl ⟨?_,hx.trans a0⟩;simp[CH,AL,h1,h3]
theorem Ke(x:C3)(hs:x.sheet.length≤1000)(w:World)(g:Dq w) :
  A9 prog 244 [JR x] w (λv w'=>v=Aq (Cl x)∧Ah w w'):=by
 obtain⟨sh,c,r,ac,ar⟩:=x;simp only at hs;simp only[JR];refine AG func244 ntmps244 ?_;refine Sa ?_;refine C0 λb w1 hb hx hB=>?_;refine Sa ?_;refine Ap rfl rfl (Mw ⟨sh,c,r,ac,ar⟩ Afl w1) ?_;rintro v w2 ⟨rfl,a0⟩;replace hB:=hB.ext a0;replace hx:=hx.trans a0;refine Sa ?_;refine Av (λh1=>?_) λh1=>?_
 ·refine Sa ?_;refine QW.body1 rfl rfl ⟨?_,hx⟩;have h1:AZ ⟨sh,c,r,ac,ar⟩=false:=by simpa using h1
  simp[Cl,h1]
 have h1:AZ ⟨sh,c,r,ac,ar⟩=true:=by simpa using h1
 have a2:=F8 ac;have a3:=F8 ar;have a4:=Ir c;have hm:0≤c∧c≤701∧0≤r∧r≤998:=by
  simp only[AZ,Abr,decide_eq_true_eq] at h1;exact⟨h1.1.1.1.2,h1.1.1.2,h1.1.2,h1.2⟩
 have a5:=Lib.itoa_length_le (r+1) Aeb Aeb;refine Sa ?_;refine Ig ?_;refine Sq ?_;refine QL.call0 rfl rfl (λw3 _=>R9 ac w3) ?_;refine Sq ?_;refine QL.call0 rfl rfl (λw3 _=>YZ c Aeb Aeb w3) ?_;refine Sq ?_;refine QL.call0 rfl rfl (λw3 _=>R9 ar w3) ?_;refine Sq ?_;refine QL.call0 rfl rfl (λw3 h3=>MI (r+1) Aeb Aeb w3 (g.ext (hx.trans h3))) ?_;refine Sq ?_;refine QL.nil λw3 a1=>?_;replace hB:=hB.ext a1;replace hx:=hx.trans a1;refine Sa ?_;refine Av (λh2=>?_) λh2=>?_
 ·have h2:sh≠[]:=by simpa using h2
  refine Sa ?_;refine QW.body1 rfl rfl ⟨?_,hx⟩;rw[Cl,if_pos h1];simp[BG,h2]
 ·have h2:sh=[]:=by simpa using h2
  refine Sa ?_;refine QW.body1 rfl rfl ⟨?_,hx⟩;rw[Cl,if_pos h1];simp[BG,h2]
theorem SS(s:List UInt8)(b:Nat)(w:World)(hB:Blk w b [Aq s] 320):A9 prog 286 [.pointer (some ⟨b,0,none⟩)] w
  (λv w'=>v=.bool (Lib.hasPrefix s [36])∧Chg [b] w w'∧Blk w' b [Aq (Lib.trimPrefix s [36])] 320):=by
 refine AG func286 ntmps286 ?_;refine Sa ?_;refine Ap rfl rfl (O3 s [36] w) ?_;rintro v w1 ⟨rfl,hx⟩;replace hB:=hB.ext hx;refine Sa ?_;refine Cu λw2 hc a0=>?_;refine Sa ?_;exact QW.body1 rfl rfl ⟨rfl,hx.chg.same hc,a0⟩
theorem PD(p:Int→Bool)(f:Nat)(hp:∀(c:Int) (w:World),A9 prog f [.int .u8 c] w (λv w'=>v=.bool (p c)∧Ah w w'))(s:List UInt8)(hs:s.length≤1000000)(b:Nat)(w:World)(hB:Blk w b [Aq s] 320) :
  A9 prog 287 [.pointer (some ⟨b,0,none⟩),.func (.func f) #[] #[]] w
  (λv w'=>v=Aq (Ak p s)∧Chg [b] w w'∧Blk w' b [Aq (HV p s)] 320):=by
 refine AG func287 ntmps287 ?_;refine Sa ?_;refine CW.loop (ι:=Nat) (λk w'=>k≤s.length∧Ah w w'∧∀j,j<k→p (Ab s j)=true) (λk=>[(0,.pointer (some ⟨b,0,none⟩)),(1,.func (.func f) #[] #[]),(5,.int .i64 k)]) (λk=>s.length - k) 0 ⟨by omega,Chg.refl _ _,by omega⟩ Bp ?_;rintro k w1 ⟨hk,hx,a0⟩;replace hB:=hB.ext hx;refine Sa ?_;refine B8 (λh1=>?_) λh1=>?_
 ·have h1:k<s.length:=by simpa using h1
  refine Sa ?_;refine LW.call (fs:=[]) (cs:=[]) rfl rfl rfl (hp _ _) ?_;rintro v w2 ⟨rfl,a3⟩;replace hB:=hB.ext a3;replace hx:=hx.trans a3;refine Sa ?_;refine Av (λh2=>?_) λh2=>?_
  ·have h2:p (Ab s k)=true:=h2;refine Sa ?_;refine QW.again (k+1) ⟨by omega,hx,?_⟩ Bp Aeb;intro j hj;by_cases a4:j=k
   ·subst a4;exact h2
   ·exact a0 j Aeb
  ·have h2:p (Ab s k)=false:=h2;have a1:=KG p s k hk a0 (Or.inr h2);refine Sa ?_;refine LW.slice_str (i:=0) (j:=k) rfl rfl rfl rfl ⟨_,_,rfl,rfl⟩ Aeb hk rfl ?_;refine Sa ?_;refine LW.slice_str (i:=k) (j:=s.length) rfl rfl rfl ⟨_,_,rfl,rfl⟩ rfl hk Aeb rfl ?_;refine Sa ?_;refine Cu λw3 hc a2=>?_;refine Sa ?_;refine QW.body1 rfl rfl ⟨?_,hx.chg.same hc,?_⟩
   ·rw[MZ,a1.1]
   ·rw[←a1.2,←EZ];exact a2
 ·have h1:k=s.length:=by simp at h1;omega
  have a1:=KG p s k hk a0 (Or.inl h1);refine Sa ?_;refine LW.slice_str (i:=0) (j:=k) rfl rfl rfl rfl ⟨_,_,rfl,rfl⟩ Aeb hk rfl ?_;refine Sa ?_;refine LW.slice_str (i:=k) (j:=s.length) rfl rfl rfl ⟨_,_,rfl,rfl⟩ rfl hk Aeb rfl ?_;refine Sa ?_;refine Cu λw3 hc a2=>?_;refine Sa ?_;refine QW.body1 rfl rfl ⟨?_,hx.chg.same hc,?_⟩
  ·rw[MZ,a1.1]
  ·rw[←a1.2,←EZ];exact a2
def Of(s:List UInt8):Option Int:=match Lib.atoiAll (Ak Ar (Cq s)) with
 | .ok n=>some n
 | _=>none
def D0(s:List UInt8):C3:=⟨CU s,(AL (Ak AQ (Cf s))).getD 0,IntKind.i64.wrap ((Of s).getD 0 - 1),Lib.hasPrefix (C9 s) [36],Lib.hasPrefix (Ds s) [36]⟩
def AV(s:List UInt8):Bool:=(AL (Ak AQ (Cf s))).isSome&&(Of s).isSome&&decide (Cl (D0 s)=s)&&!decide (s=[])
def I9:C3:=⟨[],0,0,false,false⟩
def F2(s:List UInt8):Value:=if AV s then .tuple #[JR (D0 s),.bool true] else .tuple #[JR I9,.bool false]
theorem KA(s:List UInt8):CH s=.tuple #[.int .i64 ((AL s).getD 0),.bool (AL s).isSome]:=by
 unfold CH;cases AL s<;>rfl
theorem J9(s:List UInt8):-1000000≤(AL s).getD 0∧(AL s).getD 0≤1000000:=by
 unfold AL
 split
 ·rename_i a;have:=CQ [a] 0
  split<;>simp<;>omega
 ·rename_i a b;have:=CQ [a,b] 0;have:=CQ [a,b] 1
  split<;>simp<;>omega
 ·simp
theorem QP(s:List UInt8)(hs:s.length≤1000)(w:World)(g:Dq w):A9 prog 269 [Aq s] w (λv w'=>v=F2 s∧Ah w w'):=by
 refine AG func269 ntmps269 ?_;refine Sa ?_;refine B1 λR w1 ay hx hR=>?_;refine Sa ?_;refine B1 λC w2 az ah hC=>?_;have b0:R<C:=by have:=hR.lt;omega
 replace hR:Blk w2 R (AU I9) 187:=hR.ext ah;replace hC:Blk w2 C (AU I9) 187:=hC;replace hx:=hx.trans ah;refine Sa ?_;refine C0 λX w3 b1 af hX=>?_;have b2:C<X:=by have:=hC.lt;omega
 replace hR:=hR.ext af;replace hC:=hC.ext af;replace hX:Blk w3 X [Aq s] 320:=hX;replace hx:=hx.trans af;refine Sa ?_;refine Ap rfl rfl (Za s [33] Aeb w3 (g.ext hx)) ?_;rintro v w4 ⟨rfl,ac⟩;replace hR:=hR.ext ac;replace hC:=hC.ext ac;replace hX:=hX.ext ac;replace hx:=hx.trans ac;refine Sl ?_;apply LW.nil;apply QW.then_n;refine CW.cut (ι:=Unit) (λ_ w'=>Ah w w'∧Blk w' R (AU I9) 187∧Blk w' C [Aq (CU s),.int .i64 0,.int .i64 0,.bool false,.bool false] 187∧Blk w' X [Aq (C9 s)] 320)
  (λ_=>[(0,Aq s),(2,.pointer (some ⟨R,0,none⟩)),(3,.bool false),(4,.pointer (some ⟨C,0,none⟩)),(5,.pointer (some ⟨X,0,none⟩))]) ?_ ?_
 ·refine Sa ?_;refine Av (λh1=>?_) λh1=>?_
  ·refine Sa ?_;refine Cu λw5 ai aj=>?_;replace hR:=hR.chg ai Aee;replace hX:=hX.chg ai Aee;replace hx:=hx.step ai Aee;refine Sa ?_;refine Cu λw6 a7 ap=>?_;replace hR:=hR.chg a7 Aee;replace aj:=aj.chg a7 Aee;replace hx:=hx.step a7 Aee;refine Sa ?_;refine QW.head () ⟨hx,hR,?_,?_⟩ CT
   ·simpa[CU,h1,AU,I9] using aj
   ·simpa[C9,h1] using ap
  ·refine Sa ?_;refine QW.head () ⟨hx,hR,?_,?_⟩ CT
   ·simpa[CU,h1,AU,I9] using hC
   ·simpa[C9,h1] using hX
 clear hx hR hC hX ah af ac;rintro _ w5 ⟨hx,hR,hC,hX⟩;have b3:(C9 s).length≤s.length:=by
  unfold C9;split
  ·exact XA s [33]
  ·omega
 have ao:(Cf s).length≤1000:=Acd (G9 _ _) Aeb;have aq:(Ds s).length≤1000:=Acd (Q4 _ _) ao;have ar:(Cq s).length≤1000:=Acd (G9 _ _) aq;have b4:(Ak AQ (Cf s)).length≤1000:=Acd (KF _ _) ao;have b5:(Ak Ar (Cq s)).length≤1000:=Acd (KF _ _) ar;have au:(CU s).length≤1000:=by
  unfold CU;split
  ·exact Acd (Rg s [33]) hs
  ·simp
 refine Sa ?_;refine LW.call (fs:=[.pointer (some ⟨X,0,none⟩)]) (cs:=[]) rfl rfl rfl (SS _ X w5 hX) ?_;rintro v w6 ⟨rfl,a7,hX⟩;replace hR:=hR.chg a7 Aee;replace hC:=hC.chg a7 Aee;replace hx:=hx.step a7 Aee;refine Sa ?_;refine Cu λw7 ak hC=>?_;replace hR:=hR.chg ak Aee;replace hX:=hX.chg ak Aee;replace hx:=hx.step ak Aee;refine Sa ?_;refine LW.call (fs:=[.pointer (some ⟨X,0,none⟩)]) (cs:=[]) rfl rfl rfl (PD AQ _ EX (Cf s) Aeb X w7 hX) ?_;rintro v w8 ⟨rfl,al,hX⟩;replace hR:=hR.chg al Aee;replace hC:=hC.chg al Aee;replace hx:=hx.step al Aee;refine Sa ?_;refine Ap rfl rfl (QO _ Aeb w8) ?_;rintro v w9 ⟨rfl,ag⟩;rw[KA];replace hR:=hR.ext ag;replace hC:=hC.ext ag;replace hX:=hX.ext ag;replace hx:=hx.trans ag;refine Sa ?_;refine LW.call (fs:=[.pointer (some ⟨X,0,none⟩)]) (cs:=[]) rfl rfl rfl (SS (Ds s) X w9 hX) ?_;rintro v b6 ⟨rfl,a8,hX⟩;replace hR:=hR.chg a8 Aee;replace hC:=hC.chg a8 Aee;replace hx:=hx.step a8 Aee;refine Sa ?_;refine Cu λav a9 hC=>?_;replace hR:=hR.chg a9 Aee;replace hX:=hX.chg a9 Aee;replace hx:=hx.step a9 Aee;refine Sa ?_;refine LW.call (fs:=[.pointer (some ⟨X,0,none⟩)]) (cs:=[]) rfl rfl rfl (PD Ar _ OP (Cq s) Aeb X av hX) ?_;rintro v aw ⟨rfl,aa,hX⟩;replace hR:=hR.chg aa Aee;replace hC:=hC.chg aa Aee;replace hx:=hx.step aa Aee;refine Sa ?_;refine Ap rfl rfl (Ih _ Aeb aw (g.ext hx)) ?_;rintro v b7 ⟨hv,a6⟩;replace hR:=hR.ext a6;replace hC:=hC.ext a6;replace hX:=hX.ext a6;replace hx:=hx.trans a6;have b8:=J9 (Ak AQ (Cf s))
 cases a5:Of s with
 | some z=>
  have hv:v=.tuple #[.int .i64 z,.nilIface]:=by
   unfold Of at a5;unfold Jz at hv
   split at a5
   ·rename_i m hm;rw[hm] at hv;simp only[AaZ] at a5;subst a5;exact hv
   ·cases a5
  subst hv;refine Sa ?_;refine LW.arith (op:=.sub) rfl rfl rfl rfl rfl ?_;refine Sa ?_;refine Cu λax a3 hC=>?_;replace hR:=hR.chg a3 Aee;replace hx:=hx.step a3 Aee;refine Sa ?_;refine Cu λam a4 hC=>?_;replace hR:=hR.chg a4 Aee;replace hx:=hx.step a4 Aee;replace hC:Blk am C (AU (D0 s)) 187:=by
   have e:AU (D0 s)=[Aq (CU s),.int .i64 ((AL (Ak AQ (Cf s))).getD 0),.int .i64 (IntKind.i64.wrap (z - 1)),.bool (Lib.hasPrefix (C9 s) [36]),.bool (Lib.hasPrefix (Ds s) [36])]:=by
    simp[AU,D0,a5]
   rw[e];exact hC
  refine Sa ?_
  cases an:AL (Ak AQ (Cf s)) with
  | none=>
   have a2:AV s=false:=by simp[AV,an]
   refine Sa ?_;refine AF λad a0 a1=>?_;refine Sa ?_;refine QW.body_ct rfl rfl a1 rfl rfl rfl rfl ⟨?_,hx.step a0 Aee⟩;rw[F2,a2]
   rfl
  | some cz=>
   refine Sa ?_;refine Ap rfl rfl (Ke (D0 s) au am (g.ext hx)) ?_;rintro v b9 ⟨rfl,ab⟩;replace hR:=hR.ext ab;replace hC:=hC.ext ab;replace hx:=hx.trans ab;refine Sa ?_;refine B8 (λh1=>?_) λh1=>?_
   ·have a2:AV s=false:=by
     have h1:¬Cl (D0 s)=s:=by simpa using h1
     simp[AV,h1]
    refine Sa ?_;refine AF λad a0 a1=>?_;refine Sa ?_;refine QW.body_ct rfl rfl a1 rfl rfl rfl rfl ⟨?_,hx.step a0 Aee⟩;rw[F2,a2];rfl
   ·have h1:Cl (D0 s)=s:=by simpa using h1
    refine Sa ?_;refine Av (λh2=>?_) λh2=>?_
    ·have a2:AV s=false:=by
      have h2:s=[]:=by simpa using h2
      simp[AV,h2]
     refine Sa ?_;refine AF λad a0 a1=>?_;refine Sa ?_;refine QW.body_ct rfl rfl a1 rfl rfl rfl rfl ⟨?_,hx.step a0 Aee⟩;rw[F2,a2];rfl
    ·have h2:¬s=[]:=by simpa using h2
     have ae:AV s=true:=by simp[AV,an,a5,h1,h2]
     refine Sa ?_;refine AF λad a0 a1=>?_;refine Sa ?_;refine QW.body_ct rfl rfl a1 rfl rfl rfl rfl ⟨?_,hx.step a0 Aee⟩;rw[F2,if_pos ae]
     rfl
 | none=>
  have hv:∃z t x,v=.tuple #[.int .i64 z,.iface t x]:=by
   unfold Of at a5;unfold Jz at hv;cases ha:Lib.atoiAll (Ak Ar (Cq s))<;>simp only[ha,reduceCtorEq] at a5 hv<;>exact hv
  obtain⟨z,te,xe,rfl⟩:=hv;have a2:AV s=false:=by simp[AV,a5]
  refine Sa ?_;refine LW.arith (op:=.sub) rfl rfl rfl rfl rfl ?_;refine Sa ?_;refine Cu λax a3 hC=>?_;replace hR:=hR.chg a3 Aee;replace hx:=hx.step a3 Aee;refine Sa ?_;refine Cu λam a4 hC=>?_;replace hR:=hR.chg a4 Aee;replace hx:=hx.step a4 Aee
  cases an:AL (Ak AQ (Cf s)) with
  | none=>
   refine Sa ?_;refine AF λad a0 a1=>?_;refine Sa ?_;refine QW.body_ct rfl rfl a1 rfl rfl rfl rfl ⟨?_,hx.step a0 Aee⟩;rw[F2,a2]
   rfl
  | some cz=>
   refine Sa ?_;refine AF λad a0 a1=>?_;refine Sa ?_;refine QW.body_ct rfl rfl a1 rfl rfl rfl rfl ⟨?_,hx.step a0 Aee⟩;rw[F2,a2];rfl
theorem Kl{l:List UInt8}{i:Nat}{c:UInt8}(hi:i<l.length):Ab l i=(c.toNat:Int)↔l[i]?=some c:=by
 rw[B2 hi,Aav hi];constructor
 ·intro h;have:l[i].toNat=c.toNat:=Aeb
  rw[Adn.1 this]
 ·intro h;simp only[AaZ] at h;rw[h]
theorem Yp(s:List UInt8)(i:Nat):Lib.occAt s [33] i=decide (s[i]?=some 33):=by
 unfold Lib.occAt
 cases h:s.drop i with
 | nil=>
  have:s.length≤i:=by
   have:=congrArg List.length h;simp at this;omega
  simp[AbE this]
 | cons c r=>
  have a0:i<s.length:=by
   have:=congrArg List.length h;simp at this;omega
  have:s[i]?=some c:=by
   have:=congrArg (λl:List UInt8=>l[0]?) h
   simpa using this
  rw[this];rw[AcL];simp[List.isPrefixOf];exact eq_comm
theorem KT{s:List UInt8}{k:Nat}(hk:k<s.length)(h:Ab s k=33)(hn:∀j,j<k→Ab s j≠33):Lib.cut s [33]=(s.take k,s.drop (k+1),true):=by
 have hi:Lib.index s [33]=k:=by
  refine Lib.index_hit (λj hj=>?_) Aeb ?_
  ·rw[Yp,decide_eq_false_iff_not];intro hh;exact hn j hj ((Kl (c:=33) Aeb).2 hh)
  ·rw[Yp,decide_eq_true_eq];exact(Kl (c:=33) hk).1 h
 unfold Lib.cut;rw[hi,if_pos Aeb];simp
theorem Rh{s:List UInt8}(hn:∀j,j<s.length→Ab s j≠33):Lib.cut s [33]=(s,[],false):=by
 have hi:Lib.index s [33]=-1:=by
  refine Lib.index_past (i:=s.length) Aej (λj hj=>?_) Aej;rw[Yp,decide_eq_false_iff_not];intro hh;exact hn j hj ((Kl (c:=33) hj).2 hh)
 unfold Lib.cut;rw[hi,if_neg Aeb]
theorem K9(l:List UInt8):Lib.hasPrefix l [36]=decide (0<l.length∧Ab l 0=36):=by
 cases l with
 | nil=>rfl
 | cons c r=>
  rw[AcL];have:=Kl (l:=c::r) (i:=0) (c:=36) Aej;simp[Lib.hasPrefix,List.isPrefixOf];rw[show(36:Int)=(((36:UInt8).toNat:Nat):Int) from rfl,this];simp[eq_comm]
theorem IJ(l:List UInt8):Lib.trimPrefix l [36]=if 0<l.length∧Ab l 0=36 then l.drop 1 else l:=by
 unfold Lib.trimPrefix;rw[K9];simp only[decide_eq_true_eq];rfl
def d3(n:Nat):List UInt8:=
 if n<10 then[ch (48+(n:Int))] else if n<100 then[ch (48+((n / 10:Nat):Int)),ch (48+(n:Int) % 10)] else[ch (48+((n / 100:Nat):Int)),ch (48+((n / 10:Nat):Int) % 10),ch (48+(n:Int) % 10)]
theorem CV{u:Nat}(h:u<10):Lib.decDigits u=[ch (48+(u:Int))]:=by
 rw[Lib.decDigits,dif_pos h];rfl
theorem Eo{u:Nat}(h:10≤u):Lib.decDigits u=Lib.decDigits (u / 10)++[ch (48+(u:Int) % 10)]:=by
 rw[Lib.decDigits,dif_neg Aeb]
 congr 2
theorem AaM{n:Nat}(h:n<1000):Lib.decDigits n=d3 n:=by
 unfold d3
 split
 ·rename_i h1;exact CV h1
 ·rename_i h1;rw[Eo Aeb]
  split
  ·rw[CV Aeb];rfl
  ·rw[Eo Aeb,CV Aeb];have:n / 10 / 10=n / 100:=Aeb
   rw[this];rfl
def Sd(n:Nat):Bool:=(d3 n).all (λc=>Ar (c.toNat:Int))&&decide (0<(d3 n).length)&&decide ((d3 n).length≤3)&&decide (Lib.atoiAll (d3 n)=.ok (n:Int))
theorem Tz:∀n:Fin 1000,Sd n.val=true:=by decide +kernel
theorem UQ{z:Int}(h0:0≤z)(h1:z<1000):Lib.itoa z=d3 z.toNat:=by
 unfold Lib.itoa;rw[if_neg Aeb,AaM Aeb]
theorem Gy{z:Int}(h0:0≤z)(h1:z<1000):(∀c∈Lib.itoa z,Ar (c.toNat:Int)=true)∧0<(Lib.itoa z).length∧(Lib.itoa z).length≤3∧Lib.atoiAll (Lib.itoa z)=.ok z:=by
 have:=Tz ⟨z.toNat,by omega⟩;rw[UQ h0 h1];simp only[Sd,Abr,Ac5,decide_eq_true_eq] at this;obtain⟨⟨⟨a1,a2⟩,a3⟩,a4⟩:=this;exact⟨a1,a2,a3,by rw[a4];congr 1;omega⟩
def ZX(n:Nat):Bool:=(Fu (n:Int)).all (λc=>AQ (c.toNat:Int))&&decide (0<(Fu (n:Int)).length)&&decide (AL (Fu (n:Int))=some (n:Int))
theorem Xx:∀n:Fin 702,ZX n.val=true:=by decide +kernel
theorem MY{z:Int}(h0:0≤z)(h1:z≤701):(∀c∈Fu z,AQ (c.toNat:Int)=true)∧0<(Fu z).length∧AL (Fu z)=some z:=by
 have:=Xx ⟨z.toNat,by omega⟩;have e:((z.toNat:Nat):Int)=z:=Aeb
 simp only[ZX,e,Abr,Ac5,decide_eq_true_eq] at this;exact⟨this.1.1,this.1.2,this.2⟩
theorem DD{r:C3}(h:AZ r=true):(r.sheet=[]∨D5 r.sheet=true)∧0≤r.col∧r.col≤701∧0≤r.row∧r.row≤998:=by
 simp only[AZ,Abr,Aci,decide_eq_true_eq] at h;exact⟨h.1.1.1.1,h.1.1.1.2,h.1.1.2,h.1.2,h.2⟩
theorem Gd{l:List UInt8}(h:D5 l=true):l≠[]∧l.length≤12∧∀j,j<l.length→Tp (Ab l j)=true:=by
 simp only[D5,Abr,decide_eq_true_eq] at h;exact⟨h.1.1.1,h.1.1.2,h.2⟩
def E1(r:C3):List UInt8:=Lib.itoa (r.row+1)
def EB(r:C3):List UInt8:=D4 r.ar++E1 r
def HZ(r:C3):List UInt8:=Fu r.col++EB r
def E9(r:C3):List UInt8:=D4 r.ac++HZ r
theorem SZ(r:C3):BG r=(if r.sheet=[] then[] else r.sheet++[33])++E9 r:=by
 simp[BG,E9,HZ,EB,E1]
theorem LK(p:Int→Bool):∀(a b:List UInt8),(∀c∈a,p (c.toNat:Int)=true)→(b=[]∨p (Ab b 0)=false)→Ak p (a++b)=a∧HV p (a++b)=b
 | [],b,_,hb=>by
  cases b with
  | nil=>simp[Ak,HV]
  | cons c r=>
   have hc:p (c.toNat:Int)=false:=by
    rcases hb with hb | hb
    ·cases hb
    ·exact hb
   simp[Ak,HV,hc]
 | c::a,b,ha,hb=>by
  have hc:=ha c Aej;obtain⟨h1,h2⟩:=LK p a b (λd hd=>ha d (by simp[hd])) hb;simp only[Ak,HV] at h1 h2 ⊢;simp[hc,h1,h2]
theorem B4{a b:List UInt8}{j:Nat}(h:j<a.length):Ab (a++b) j=Ab a j:=by
 unfold Ab;rw[AaA,AaA,Ab6 h]
theorem DO{l:List UInt8}{j:Nat}(h:j<l.length):∃c∈l,Ab l j=(c.toNat:Int):=⟨l[j],AbY h,B2 h⟩
theorem UJ(z:Int)(h:AQ z=true):z≠33∧z≠36∧Ar z=false:=by
 simp[AQ] at h;refine⟨by omega,by omega,?_⟩;simp[Ar];omega
theorem UM(z:Int)(h:Ar z=true):z≠33∧z≠36∧AQ z=false:=by
 simp[Ar] at h;refine⟨by omega,by omega,?_⟩;simp[AQ];omega
theorem Aaq(z:Int)(h:Tp z=true):z≠33∧z≠36:=by
 simp[Tp,Fx,AQ,Ar] at h;omega
theorem AaS{r:C3}(h:AZ r=true):∀c∈E9 r,(c.toNat:Int)≠33:=by
 obtain⟨_,c0,c1,r0,r1⟩:=DD h;obtain⟨hc,_,_⟩:=MY c0 c1;obtain⟨hd,_,_,_⟩:=Gy (z:=r.row+1) Aeb Aeb;intro c hm;have mk:∀b,c∈D4 b→(c.toNat:Int)≠33:=λb hb=>by
  cases b
  ·simp[D4] at hb
  ·simp[D4] at hb;subst hb;decide
 simp only[E9,HZ,EB,E1,Ab1] at hm;rcases hm with hm | hm | hm | hm
 ·exact mk _ hm
 ·exact(UJ _ (hc c hm)).1
 ·exact mk _ hm
 ·exact(UM _ (hd c hm)).1
theorem Vd{r:C3}(h:AZ r=true) :
  CU (BG r)=r.sheet∧C9 (BG r)=E9 r∧Lib.hasPrefix (E9 r) [36]=r.ac∧Cf (BG r)=HZ r∧Ak AQ (HZ r)=Fu r.col∧Ds (BG r)=EB r∧
  Lib.hasPrefix (EB r) [36]=r.ar∧Cq (BG r)=E1 r∧Ak Ar (E1 r)=E1 r:=by
 obtain⟨hs,c0,c1,r0,r1⟩:=DD h;obtain⟨hc,a2,_⟩:=MY c0 c1;obtain⟨hd,a3,_,_⟩:=Gy (z:=r.row+1) Aeb Aeb;have a4:=AaS h;have e0:CU (BG r)=r.sheet∧C9 (BG r)=E9 r:=by
  rw[SZ];by_cases a1:r.sheet=[]
  ·rw[if_pos a1,AbN];have a0:=Rh (s:=E9 r) (λj hj=>by
    obtain⟨c,hm,e⟩:=DO hj;rw[e];exact a4 c hm)
   simp[CU,C9,a0,a1]
  ·rw[if_neg a1];have hn:D5 r.sheet=true:=hs.resolve_left a1;obtain⟨_,_,a5⟩:=Gd hn;have a0:=KT (s:=r.sheet++[33]++E9 r) (k:=r.sheet.length) Aej
    (by
     refine(Kl (c:=33) Aej).2 ?_;simp)
    (λj hj=>by
     rw[Abn,B4 hj];exact(Aaq _ (a5 j hj)).1)
   have t1:(r.sheet++[33]++E9 r).take r.sheet.length=r.sheet:=by rw[Abn,List.take_left]
   have t2:(r.sheet++[33]++E9 r).drop (r.sheet.length+1)=E9 r:=by
    have:(r.sheet++[33]).length=r.sheet.length+1:=Aej
    rw[←this,AdX]
   rw[t1,t2] at a0;unfold CU C9;rw[a0];exact⟨rfl,rfl⟩
 have bcol:Ab (HZ r) 0≠36:=by
  obtain⟨c,hm,e⟩:=DO a2;rw[HZ,B4 a2,e];exact(UJ _ (hc c hm)).2.1
 have bdig:Ab (E1 r) 0≠36∧AQ (Ab (E1 r) 0)=false:=by
  obtain⟨c,hm,e⟩:=DO a3;rw[E1,e];exact(UM _ (hd c hm)).2
 have p0:Lib.hasPrefix (E9 r) [36]=r.ac∧Lib.trimPrefix (E9 r) [36]=HZ r:=by
  rw[K9,IJ]
  cases ha:r.ac with
  | true=>
   have e:E9 r=36::HZ r:=by simp[E9,D4,ha]
   have b:Ab (36::HZ r) 0=36:=rfl
   rw[e];simp[b]
  | false=>
   have e:E9 r=HZ r:=by simp[E9,D4,ha]
   rw[e];simp[bcol]
 have p2:Lib.hasPrefix (EB r) [36]=r.ar∧Lib.trimPrefix (EB r) [36]=E1 r:=by
  rw[K9,IJ]
  cases ha:r.ar with
  | true=>
   have e:EB r=36::E1 r:=by simp[EB,D4,ha]
   have b:Ab (36::E1 r) 0=36:=rfl
   rw[e];simp[b]
  | false=>
   have e:EB r=E1 r:=by simp[EB,D4,ha]
   rw[e];simp[bdig.1]
 have a6:AQ (Ab (EB r) 0)=false:=by
  cases ha:r.ar with
  | true=>
   have e:EB r=36::E1 r:=by simp[EB,D4,ha]
   rw[e];rfl
  | false=>
   have e:EB r=E1 r:=by simp[EB,D4,ha]
   rw[e];exact bdig.2
 have s1:=LK AQ (Fu r.col) (EB r) hc (Or.inr a6);have s3:=LK Ar (E1 r) [] hd (Or.inl rfl);rw[AbD] at s3;have k1:Cf (BG r)=HZ r:=by rw[Cf,e0.2,p0.2]
 have k2:Ds (BG r)=EB r:=by rw[Ds,k1];exact s1.2
 exact⟨e0.1,e0.2,p0.1,k1,s1.1,k2,p2.1,by rw[Cq,k2,p2.2],s3.1⟩
theorem Ov{r:C3}(h:AZ r=true):BG r≠[]:=by
 obtain⟨_,_,_,r0,r1⟩:=DD h;obtain⟨_,a0,_,_⟩:=Gy (z:=r.row+1) Aeb Aeb;intro he;have:=congrArg List.length he;simp[BG] at this;have h2:=this.2.2.2.2;rw[h2] at a0;simp at a0
theorem Pw{r:C3}(h:AZ r=true):AV (BG r)=true∧D0 (BG r)=r:=by
 obtain⟨q1,q2,q3,q4,q5,q6,q7,q8,q9⟩:=Vd h;obtain⟨_,c0,c1,r0,r1⟩:=DD h;obtain⟨_,_,a0⟩:=MY c0 c1;obtain⟨_,_,_,a2⟩:=Gy (z:=r.row+1) Aeb Aeb;have a1:Of (BG r)=some (r.row+1):=by
  unfold Of;rw[q8,q9,E1,a2]
 have hv:D0 (BG r)=r:=by
  unfold D0;rw[q1,q4,q5,a0,a1,q2,q3,q6,q7];have:IntKind.i64.wrap ((some (r.row+1)).getD 0 - 1)=r.row:=by
   rw[Ac6,show r.row+1 - 1=r.row by omega];exact Fs Aeb Aeb
  rw[this];rfl
 refine⟨?_,hv⟩;unfold AV;rw[hv,q4,q5,a0,a1,Cl,if_pos h];simp[Ov h]
theorem Vh{s:List UInt8}(h:AV s=true):AZ (D0 s)=true∧BG (D0 s)=s:=by
 simp only[AV,Abr,decide_eq_true_eq,AcO,decide_eq_false_iff_not] at h;obtain⟨⟨_,h1⟩,h2⟩:=h;unfold Cl at h1
 split at h1
 ·rename_i hm;exact⟨hm,h1⟩
 ·exact absurd h1.symm h2
theorem Q3{s:List UInt8}(h:∀r,AZ r=true→BG r≠s):AV s=false:=by
 cases hk:AV s
 ·rfl
 ·obtain⟨a,b⟩:=Vh hk;exact absurd b (h _ a)
theorem Dj(c:Int)(w:World):A9 prog 262 [.int .u8 c] w (λv w'=>v=.bool (AQ c)∧Ah w w'):=by
 refine AG func262 ntmps262 ?_;refine Sa ?_;refine B8 (λh1=>?_) λh1=>?_
 all_goals
  refine Sa ?_;refine QW.body1 rfl rfl ⟨?_,Chg.refl _ _⟩;simp[AQ,h1]
theorem EQ(c:Int)(w:World):A9 prog 93 [.int .u8 c] w (λv w'=>v=.bool (Ar c)∧Ah w w'):=by
 refine AG func93 ntmps93 ?_;refine Sa ?_;refine B8 (λh1=>?_) λh1=>?_
 all_goals
  refine Sa ?_;refine QW.body1 rfl rfl ⟨?_,Chg.refl _ _⟩;simp[Ar,h1]
theorem IB(c:Int)(w:World):A9 prog 92 [.int .u8 c] w (λv w'=>v=.bool (Fx c)∧Ah w w'):=by
 refine AG func92 ntmps92 ?_;refine Sa ?_;refine B8 (λh1=>?_) λh1=>?_
 ·refine Sa ?_;refine B8 (λh2=>?_) λh2=>?_
  ·refine Sa ?_;refine QW.body1 rfl rfl ⟨?_,Chg.refl _ _⟩;simp[Fx,AQ,h1,h2]
  ·refine Sa ?_;refine B8 (λh3=>?_) λh3=>?_
   all_goals
    refine Sa ?_;refine QW.body1 rfl rfl ⟨?_,Chg.refl _ _⟩;simp[Fx,AQ,h1,h2,h3]
 ·refine Sa ?_;refine B8 (λh3=>?_) λh3=>?_
  all_goals
   refine Sa ?_;refine QW.body1 rfl rfl ⟨?_,Chg.refl _ _⟩;simp[Fx,AQ,h1,h3]
theorem St(n:Int)(h0:-9223372036854775808≤n)(h1:n≤9223372036854775807)(w:World):A9 prog 63 [.int .i64 n] w (λv w'=>v=Aq (Fu n)∧Ah w w'):=by
 refine AG func63 ntmps63 ?_;refine Sa ?_;refine B8 (λh2=>?_) λh2=>?_
 ·have h2:n<0:=by simpa using h2
  refine Sa ?_;refine QW.body1 rfl rfl ⟨?_,Chg.refl _ _⟩;rw[Fu,if_pos Aeb]
 have h2:0≤n:=by simpa using h2
 refine Sa ?_;refine Av (λh3=>?_) λh3=>?_
 ·have h3:701<n:=by simpa using h3
  refine Sa ?_;refine QW.body1 rfl rfl ⟨?_,Chg.refl _ _⟩;rw[Fu,if_pos Aeb]
 have h3:n≤701:=by simpa using h3
 refine Sa ?_;refine Av (λh4=>?_) λh4=>?_
 ·have h4:n<26:=by simpa using h4
  refine Sa ?_;refine CR λb w1 hb hx hB=>?_;replace hB:Blk w1 b [.int .u8 (65+n)] 5:=hB;refine Sa ?_;refine QW.body1 rfl rfl ⟨?_,hx⟩;rw[Fu,if_neg Aeb,if_pos h4]
 ·have h4:26≤n:=by simpa using h4
  refine Sa ?_;refine CR λb w1 hb hx hB=>?_;replace hB:Blk w1 b [.int .u8 (65+n / 26 - 1),.int .u8 (65+n % 26)] 5:=hB;refine Sa ?_;refine QW.body1 rfl rfl ⟨?_,hx⟩;rw[Fu,if_neg Aeb,if_neg Aeb]
theorem Q2(s:List UInt8)(hs:s.length≤1000000)(w:World):A9 prog 263 [Aq s] w (λv w'=>v=CH s∧Ah w w'):=by
 match s,hs with
 | [],_=>
  refine AG func263 ntmps263 ?_;refine Sa ?_
  refine QW.body2 rfl rfl rfl ⟨rfl,Chg.refl _ _⟩
 | a::b::c::l,hs=>
  simp at hs;refine AG func263 ntmps263 ?_;refine Sa ?_;refine B8 (λh=>?_) λh=>?_
  ·refine Sa ?_;refine QW.body2 rfl rfl rfl ⟨rfl,Chg.refl _ _⟩
  ·simp at h;omega
 | [a],_=>
  refine AG func263 ntmps263 ?_;refine Sa ?_;refine Ap rfl rfl (Dj _ _) ?_;rintro v w1 ⟨rfl,hx⟩;refine Sa ?_;refine B8 (λh1=>?_) λh1=>?_
  ·refine Sa ?_;refine QW.body2 rfl rfl rfl ⟨?_,hx⟩;have h1:AQ (Ab [a] 0)=false:=by simpa using h1
   simp[CH,AL,h1]
  have h1:AQ (Ab [a] 0)=true:=by simpa using h1
  refine Sa ?_;refine Ap rfl rfl (Dj _ _) ?_;rintro v w2 ⟨rfl,a0⟩;refine Sa ?_;refine Av (λh2=>?_) λh2=>?_
  ·have h2:AQ (Ab [a] 0)=false:=by simpa using h2
   rw[h1] at h2;cases h2
  have hb:=CQ [a] 0;have a1:65≤Ab [a] 0∧Ab [a] 0≤90:=by simpa[AQ] using h1
  have e0:Ab [a] (0:Int).toNat=Ab [a] 0:=rfl;refine Sa ?_;refine QW.body2 rfl rfl rfl ⟨?_,hx.trans a0⟩
  simp[CH,AL,h1]
 | [a,b],_=>
  refine AG func263 ntmps263 ?_;refine Sa ?_;refine Ap rfl rfl (Dj _ _) ?_;rintro v w1 ⟨rfl,hx⟩;refine Sa ?_;refine B8 (λh1=>?_) λh1=>?_
  ·refine Sa ?_;refine QW.body2 rfl rfl rfl ⟨?_,hx⟩;have h1:AQ (Ab [a,b] 0)=false:=by simpa using h1
   simp[CH,AL,h1]
  have h1:AQ (Ab [a,b] 0)=true:=by simpa using h1
  refine Sa ?_;refine Ap rfl rfl (Dj _ _) ?_;rintro v w2 ⟨rfl,a0⟩;refine Sa ?_;refine Av (λh2=>?_) λh2=>?_
  ·refine Sa ?_;refine QW.body2 rfl rfl rfl ⟨?_,hx.trans a0⟩;have h2:AQ (Ab [a,b] 1)=false:=by simpa using h2
   simp[CH,AL,h1,h2]
  have h2:AQ (Ab [a,b] 1)=true:=by simpa using h2
  have hb:=CQ [a,b] 0;have a1:65≤Ab [a,b] 0∧Ab [a,b] 0≤90:=by simpa[AQ] using h1
  have e0:Ab [a,b] (0:Int).toNat=Ab [a,b] 0:=rfl;have hc:=CQ [a,b] 1;have a3:65≤Ab [a,b] 1∧Ab [a,b] 1≤90:=by simpa[AQ] using h2
  have e1:Ab [a,b] (1:Int).toNat=Ab [a,b] 1:=rfl;refine Sa ?_;refine Ig ?_;refine Sq ?_;refine QL.nil λw3 a2=>?_;refine Sa ?_;refine QW.body2 rfl rfl rfl ⟨?_,(hx.trans a0).trans a2⟩;simp[CH,AL,h1,h2];omega
theorem Pu(s:List UInt8)(hs:s.length≤9223372036854775807)(w:World):A9 prog 66 [Aq s] w (λv w'=>v=.bool (D5 s)∧Ah w w'):=by
 refine AG func66 ntmps66 ?_;refine Sa ?_;refine CW.loop (ι:=Nat) (λk w'=>k≤s.length∧Ah w w'∧(0<k→Fx (Ab s 0)=true)∧∀j,j<k→Tp (Ab s j)=true) (λk=>[(0,Aq s),(3,.int .i64 k)]) (λk=>s.length - k) 0 ⟨by omega,Chg.refl _ _,by omega,by omega⟩ DT ?_;rintro k w1 ⟨hk,hx,hf,a0⟩;refine Sa ?_;refine Av (λh1=>?_) λh1=>?_
 ·have h1:k<s.length:=by simpa using h1
  refine Sa ?_;refine Ap rfl rfl (IB _ _) ?_;rintro v w2 ⟨rfl,a2⟩;replace hx:=hx.trans a2;refine Sa ?_;refine B8 (λh2=>?_) λh2=>?_
  ·have h2:Fx (Ab s k)=false:=by simpa using h2
   refine Sa ?_;refine B8 (λh3=>?_) λh3=>?_
   ·have h3:0<k:=by simpa using h3
    refine Sa ?_;refine Ap rfl rfl (EQ _ _) ?_;rintro v w3 ⟨rfl,a3⟩;replace hx:=hx.trans a3;refine Sa ?_;refine Av (λh4=>?_) λh4=>?_
    ·have h4:Ar (Ab s k)=false:=by simpa using h4
     refine Sa ?_;refine QW.body1 rfl rfl ⟨?_,hx⟩;rw[RP h1 (by simp[Tp,h2,h4])]
    ·have h4:Ar (Ab s k)=true:=by simpa using h4
     refine Sa ?_;refine QW.again (k+1) ⟨by omega,hx,λ_=>hf h3,?_⟩ DT Aeb;intro j hj;by_cases a1:j=k
     ·subst a1;simp[Tp,h4]
     ·exact a0 j Aeb
   ·have h3:k=0:=by simpa using h3
    subst h3;refine Sa ?_;refine QW.body1 rfl rfl ⟨?_,hx⟩;rw[Mf h2]
  ·have h2:Fx (Ab s k)=true:=by simpa using h2
   refine Sa ?_;refine QW.again (k+1) ⟨by omega,hx,λ_=>?_,?_⟩ DT Aeb
   ·by_cases a4:k=0
    ·subst a4;exact h2
    ·exact hf Aeb
   ·intro j hj;by_cases a1:j=k
    ·subst a1;simp[Tp,h2]
    ·exact a0 j Aeb
 ·have h1:k=s.length:=by simp at h1;omega
  subst h1;refine Sa ?_;refine B8 (λh2=>?_) λh2=>?_
  ·have h2:1≤s.length:=by simp at h2;omega
   have a5:s≠[]:=by intro h;rw[h] at h2;simp at h2
   refine Sa ?_;refine QW.body1 rfl rfl ⟨?_,hx⟩;by_cases h3:s.length≤12
   ·rw[N6 a5 h3 (hf Aeb) a0];simp;omega
   ·rw[N5 Aeb];simp;omega
  ·have h2:s=[]:=by
    apply AbA;simp at h2;omega
   subst h2;refine Sa ?_;refine QW.body1 rfl rfl ⟨rfl,hx⟩
theorem J4{u:Nat}(h:10≤u):Lib.decDigits u=Lib.decDigits (u / 10)++[ch (48+(u:Int) % 10)]:=by
 rw[Lib.decDigits,dif_neg Aeb]
 congr 2
theorem HR{u:Nat}(h:u<10):Lib.decDigits u=[ch (48+(u:Int))]:=by
 rw[Lib.decDigits,dif_pos h];rfl
theorem Ht(k:Int)(h0:0≤k)(h1:k≤9223372036854775807)(w:World):A9 prog 24 [.int .i64 k] w (λv w'=>v=Aq (Lib.itoa k)∧Ah w w'):=by
 obtain⟨m,rfl⟩:=Acw h0;have a2:Lib.itoa (m:Int)=Lib.decDigits m:=by unfold Lib.itoa;rw[if_neg Aeb];rfl
 have a0:=Lib.itoa_length_le (m:Int) Aeb h1;rw[a2] at a0;rw[a2];refine AG func24 ntmps24 ?_;refine Sa ?_;refine CW.loop (ι:=Nat×List UInt8) (λi w'=>i.1≤m∧Ah w w'∧Lib.decDigits m=Lib.decDigits i.1++i.2) (λi=>[(0,.int .i64 (m:Int)),(3,.int .u64 (i.1:Int)),(4,Aq i.2)]) (λi=>i.1) (m,[]) ⟨by simp,Chg.refl _ _,by simp⟩ Bp ?_;rintro⟨u,acc⟩ w1 ⟨hu,hx,hd⟩;simp only at hu hd;have a3:acc.length≤21:=by
  have:=congrArg List.length hd;rw[Aa9] at this;omega
 refine Sa ?_;refine Av (λh2=>?_) λh2=>?_
 ·have h2:10≤u:=by simp at h2;omega
  refine Sa ?_;refine CR λb w2 hb a1 hB=>?_;replace hB:Blk w2 b [.int .u8 (48+(u:Int) % 10)] 5:=hB;replace hx:=hx.trans a1;refine Sa ?_;refine QW.again (u / 10,[ch (48+(u:Int) % 10)]++acc) ⟨?_,hx,?_⟩ Bp ?_
  ·simp only;omega
  ·simp only;rw[hd,J4 h2];simp
  ·simp only;omega
 ·have h2:u<10:=by simp at h2;omega
  refine Sa ?_;refine CR λb w2 hb a1 hB=>?_;replace hB:Blk w2 b [.int .u8 (48+(u:Int))] 5:=hB;replace hx:=hx.trans a1;refine Sa ?_;refine QW.body1 rfl rfl ⟨?_,hx⟩;rw[hd,HR h2]
theorem I6(x:C3)(hs:x.sheet.length≤9223372036854775807)(w:World):A9 prog 186 [JR x] w (λv w'=>v=.bool (AZ x)∧Ah w w'):=by
 obtain⟨sh,c,r,ac,ar⟩:=x;simp only[JR];refine AG func186 ntmps186 ?_;refine Sa ?_;refine C0 λb w1 hb hx hB=>?_;refine Sa ?_;refine B8 (λh1=>?_) λh1=>?_
 ·refine Sa ?_;refine B8 (λh2=>?_) λh2=>?_
  ·refine Sa ?_;refine B8 (λh3=>?_) λh3=>?_
   ·refine Sa ?_;refine B8 (λh4=>?_) λh4=>?_
    ·refine Sa ?_;refine QW.body1 rfl rfl ⟨?_,hx⟩;simp[AZ, *]
    ·refine Sa ?_;refine QW.body1 rfl rfl ⟨?_,hx⟩;simp[AZ, *]
   ·refine Sa ?_;refine QW.body1 rfl rfl ⟨?_,hx⟩;simp[AZ, *]
  ·refine Sa ?_;refine QW.body1 rfl rfl ⟨?_,hx⟩;simp[AZ, *]
 ·refine Sa ?_;refine Ap rfl rfl (Pu _ hs _) ?_;rintro v w2 ⟨rfl,a0⟩;replace hB:=hB.ext a0;replace hx:=hx.trans a0;refine Sa ?_;refine B8 (λh0=>?_) λh0=>?_
  ·refine Sa ?_;refine B8 (λh2=>?_) λh2=>?_
   ·refine Sa ?_;refine B8 (λh3=>?_) λh3=>?_
    ·refine Sa ?_;refine B8 (λh4=>?_) λh4=>?_
     ·refine Sa ?_;refine QW.body1 rfl rfl ⟨?_,hx⟩;simp[AZ, *]
     ·refine Sa ?_;refine QW.body1 rfl rfl ⟨?_,hx⟩;simp[AZ, *]
    ·refine Sa ?_;refine QW.body1 rfl rfl ⟨?_,hx⟩;simp[AZ, *]
   ·refine Sa ?_;refine QW.body1 rfl rfl ⟨?_,hx⟩;simp[AZ, *]
  ·refine Sa ?_;refine QW.body1 rfl rfl ⟨?_,hx⟩;simp[AZ, *]
theorem Gv(x:C3)(hs:x.sheet.length≤1000)(w:World):A9 prog 181 [JR x] w (λv w'=>v=Aq (Cl x)∧Ah w w'):=by
 obtain⟨sh,c,r,ac,ar⟩:=x;simp only at hs;simp only[JR];refine AG func181 ntmps181 ?_;refine Sa ?_;refine C0 λb w1 hb hx hB=>?_;refine Sa ?_;refine Ap rfl rfl (I6 ⟨sh,c,r,ac,ar⟩ Afl w1) ?_;rintro v w2 ⟨rfl,a2⟩;replace hB:=hB.ext a2;replace hx:=hx.trans a2;refine Sa ?_;refine Av (λh1=>?_) λh1=>?_
 ·refine Sa ?_;refine QW.body1 rfl rfl ⟨?_,hx⟩;have h1:AZ ⟨sh,c,r,ac,ar⟩=false:=by simpa using h1
  simp[Cl,h1]
 have h1:AZ ⟨sh,c,r,ac,ar⟩=true:=by simpa using h1
 have hm:0≤c∧c≤701∧0≤r∧r≤998:=by
  simp only[AZ,Abr,decide_eq_true_eq] at h1;exact⟨h1.1.1.1.2,h1.1.1.2,h1.1.2,h1.2⟩
 have a3:=Ir c;have a4:=Lib.itoa_length_le (r+1) Aeb Aeb;rw[Cl,if_pos h1];clear h1
 match sh,hs with
 | [],_=>
  cases ac<;>cases ar
  all_goals
   refine Sa ?_;refine Ap rfl rfl (St c Aeb Aeb w2) ?_;rintro v w3 ⟨rfl,a0⟩;replace hB:=hB.ext a0;replace hx:=hx.trans a0;refine Sa ?_;refine Ap rfl rfl (Ht (r+1) Aeb Aeb w3) ?_;rintro v w4 ⟨rfl,a1⟩;replace hx:=hx.trans a1;refine Sa ?_;refine QW.body1 rfl rfl ⟨?_,hx⟩
   simp[BG,D4]
 | a::l,hs=>
  simp at hs;cases ac<;>cases ar
  all_goals
   refine Sa ?_;refine Ap rfl rfl (St c Aeb Aeb w2) ?_;rintro v w3 ⟨rfl,a0⟩;replace hB:=hB.ext a0;replace hx:=hx.trans a0;refine Sa ?_;refine Ap rfl rfl (Ht (r+1) Aeb Aeb w3) ?_;rintro v w4 ⟨rfl,a1⟩;replace hx:=hx.trans a1;refine Sa ?_;refine QW.body1 rfl rfl ⟨?_,hx⟩;simp[BG,D4]
def A1(acc:Int)(l:List UInt8):Int:=l.foldl (λa c=>10*a+((c.toNat:Int) - 48)) acc
theorem FL(acc:Int)(l:List UInt8)(c:UInt8):A1 acc (l++[c])=10*A1 acc l+((c.toNat:Int) - 48):=by simp[A1]
def ZY(n:Nat):Bool:=decide (A1 0 (d3 n)=(n:Int))
theorem Xy:∀n:Fin 1000,ZY n.val=true:=by decide +kernel
theorem Yn{z:Int}(h0:0≤z)(h1:z<1000):A1 0 (Lib.itoa z)=z:=by
 have:=Xy ⟨z.toNat,by omega⟩;rw[UQ h0 h1];simp only[ZY,decide_eq_true_eq] at this;rw[this];omega
theorem JZ{l:List UInt8}{k:Nat}(h:k<l.length):l.take (k+1)=l.take k++[l[k]]:=by
 rw[List.take_succ_eq_append_getElem h]
theorem FG(l:List UInt8)(a k:Nat):Ab (l.drop a) k=Ab l (a+k):=by
 unfold Ab;rw[AaA,AaA,AcB]
theorem Mk{s:List UInt8}(h:AV s=false):F2 s=.tuple #[JR I9,.bool false]:=by rw[F2,h];rfl
def J8(s:List UInt8):C3:=⟨CU s,(AL (Ak AQ (Cf s))).getD 0,A1 0 ((Cq s).take 4) - 1,Lib.hasPrefix (C9 s) [36],Lib.hasPrefix (Ds s) [36]⟩
theorem Zh{s:List UInt8}{r:C3}(h:AZ r=true)(e:BG r=s):J8 s=r∧(AL (Ak AQ (Cf s))).isSome=true:=by
 obtain⟨q1,q2,q3,q4,q5,q6,q7,q8,_⟩:=Vd h;obtain⟨_,c0,c1,r0,r1⟩:=DD h;obtain⟨_,_,a0⟩:=MY c0 c1;obtain⟨_,_,hl,_⟩:=Gy (z:=r.row+1) Aeb Aeb;rw[e] at q1 q2 q4 q6 q8;unfold J8;rw[q1,q4,q5,a0,q8,q2,q3,q6,q7,Acq (by rw[E1];omega),E1,Yn Aeb Aeb];refine⟨?_,rfl⟩;rw[show r.row+1 - 1=r.row by omega];rfl
theorem Zl{s:List UInt8}(hl:0<s.length)(h:Ab s 0=33):AV s=false:=by
 refine Q3 λr hr e=>?_;have hc:=KT (s:=s) (k:=0) hl h (λj hj=>by omega);have a0:CU s=[]:=by unfold CU;rw[hc];rfl
 have a1:r.sheet=[]:=by
  have:=(Vd hr).1;rw[e,a0] at this;exact this.symm
 rw[SZ,if_pos a1,AbN] at e;subst e;obtain⟨c,hm,e⟩:=DO hl;exact AaS hr c hm (by rw[←e];exact h)
theorem Wn{s:List UInt8}{j:Nat}(hl:j<(Cq s).length)(h:Ar (Ab (Cq s) j)=false):AV s=false:=by
 refine Q3 λr hr e=>?_;obtain⟨_,_,_,_,_,_,_,q8,_⟩:=Vd hr;obtain⟨_,c0,c1,r0,r1⟩:=DD hr;obtain⟨hd,_,_,_⟩:=Gy (z:=r.row+1) Aeb Aeb;rw[e] at q8;obtain⟨c,hm,e2⟩:=DO hl;rw[q8] at hm;rw[e2,hd c hm] at h;cases h
theorem GY(l:List UInt8)(h:∀j,j<l.length→Ar (Ab l j)=true):0≤A1 0 l∧A1 0 l<10 ^ l.length:=by
 have key:∀(n:Nat) (l:List UInt8),l.length=n→(∀j,j<l.length→Ar (Ab l j)=true)→0≤A1 0 l∧A1 0 l<10 ^ n:=by
  intro n
  induction n with
  | zero=>
   intro l hl _;have:l=[]:=AbA hl
   subst this;simp[A1]
  | succ n ih=>
   intro l hl h;have a0:l≠[]:=by intro h0;rw[h0] at hl;simp at hl
   have e:l=l.dropLast++[l.getLast a0]:=(AcY a0).symm;have a1:l.dropLast.length=n:=Aee
   have h1:=ih l.dropLast a1 (λj hj=>by
    have:=h j Aeb;rw[e,B4 hj] at this;exact this)
   have h2:Ar (((l.getLast a0).toNat:Nat):Int)=true:=by
    have:=h n Aeb;have e3:Ab l n=((l.getLast a0).toNat:Int):=by
     rw[B2 Aeb]
     congr 2
     rw[List.getLast_eq_getElem]
     congr 1
     omega
    rw[e3] at this;exact this
   have h3:A1 0 l=10*A1 0 l.dropLast+(((l.getLast a0).toNat:Int) - 48):=by
    conv=>lhs;rw[e]
    exact FL _ _ _
   simp only[Ar,Abr,decide_eq_true_eq] at h2;rw[h3,Int.pow_succ];constructor<;>omega
 exact key l.length l rfl h
theorem Ij(s:List UInt8)(hs:s.length≤1000)(w:World):A9 prog 220 [Aq s] w (λv w'=>v=F2 s∧Ah w w'):=by
 refine AG func220 ntmps220 ?_;refine Sa ?_;refine B1 λR w1 b4 hx hR=>?_;refine Sa ?_;refine B1 λC w2 b5 ae hC=>?_;have b6:R<C:=by have:=hR.lt;omega
 replace hR:Blk w2 R (AU I9) 187:=hR.ext ae;replace hC:Blk w2 C [Aq [],.int .i64 0,.int .i64 0,.bool false,.bool false] 187:=hC;replace hx:=hx.trans ae;refine Sl ?_;apply LW.nil;apply QW.then_n;apply CW.seq;apply CW.region;refine Sl ?_;apply LW.nil;apply QW.then_n;apply CW.seq;refine CW.cut (ι:=Nat) (λa w'=>Ah w w'∧Blk w' R (AU I9) 187∧Blk w' C [Aq (CU s),.int .i64 0,.int .i64 0,.bool false,.bool false] 187∧a≤s.length∧s.drop a=C9 s)
  (λa=>[(0,Aq s),(2,.pointer (some ⟨R,0,none⟩)),(3,.bool false),(4,.pointer (some ⟨C,0,none⟩)),(5,.int .i64 a)]) ?_ ?_
 ·refine Sa ?_;refine CW.loop (ι:=Nat) (λk w'=>k≤s.length∧Ah w w'∧Blk w' R (AU I9) 187∧Blk w' C [Aq [],.int .i64 0,.int .i64 0,.bool false,.bool false] 187∧∀j,j<k→Ab s j≠33)
   (λk=>[(0,Aq s),(2,.pointer (some ⟨R,0,none⟩)),(3,.bool false),(4,.pointer (some ⟨C,0,none⟩)),(5,.int .i64 0),(6,.int .i64 k)]) (λk=>s.length - k) 0 ⟨by omega,hx,hR,hC,by omega⟩ Ib ?_
  clear hx hR hC ae;rintro k w3 ⟨hk,hx,hR,hC,a0⟩;refine Sa ?_;refine Av (λh1=>?_) λh1=>?_
  ·have h1:k<s.length:=by simpa using h1
   refine Sa ?_;refine Av (λh2=>?_) λh2=>?_
   ·have h2:Ab s k=33:=by simpa using h2
    have aa:=KT h1 h2 a0;refine Sa ?_;refine LW.slice_str (i:=0) (j:=k) rfl rfl rfl rfl ⟨_,_,rfl,rfl⟩ Aeb hk rfl ?_;refine Sa ?_;refine Cu λw4 ab ah=>?_;replace hR:=hR.chg ab Aee;replace hx:=hx.step ab Aee;refine Sa ?_;refine Av (λh3=>?_) λh3=>?_
    ·have h3:k=0:=by simpa using h3
     subst h3;refine Sa ?_;refine AF λw5 av aw=>?_;refine Sa ?_;refine QW.body_ct rfl rfl aw rfl rfl rfl rfl ⟨?_,hx.step av Aee⟩;rw[Mk (Zl h1 h2)];rfl
    ·refine Sa ?_;refine QW.head (k+1) ⟨hx,hR,?_,by omega,?_⟩ CT
     ·have e:CU s=cut s 0 k:=by unfold CU;rw[aa,MZ];rfl
      rw[e];exact ah
     ·unfold C9;rw[aa];rfl
   ·have h2:Ab s k≠33:=by simpa using h2
    refine Sa ?_;refine QW.again (k+1) ⟨by omega,hx,hR,hC,?_⟩ Ib Aeb;intro j hj;by_cases ac:j=k
    ·subst ac;exact h2
    ·exact a0 j Aeb
  ·have h1:k=s.length:=by simp at h1;omega
   subst h1;have aa:=Rh a0;refine Sa ?_;refine QW.head 0 ⟨hx,hR,?_,by omega,?_⟩ CT
   ·have e:CU s=[]:=by unfold CU;rw[aa];rfl
    rw[e];exact hC
   ·unfold C9;rw[aa];rfl
 clear hx hR hC ae;rintro a w3 ⟨hx,hR,hC,ha,a3⟩;have ax:(C9 s).length=s.length - a:=by rw[←a3];simp
 apply CW.seq;refine CW.cut (ι:=Nat) (λa w'=>Ah w w'∧Blk w' R (AU I9) 187∧Blk w' C [Aq (CU s),.int .i64 0,.int .i64 0,.bool (Lib.hasPrefix (C9 s) [36]),.bool false] 187∧a≤s.length∧s.drop a=Cf s)
  (λa=>[(0,Aq s),(2,.pointer (some ⟨R,0,none⟩)),(3,.bool false),(4,.pointer (some ⟨C,0,none⟩)),(5,.int .i64 a)]) ?_ ?_
 ·refine Sa ?_;refine B8 (λh1=>?_) λh1=>?_
  ·have h1:a<s.length:=by simpa using h1
   refine Sa ?_;refine Av (λh2=>?_) λh2=>?_
   ·have h2:Ab s a=36:=by simpa using h2
    have e1:0<(C9 s).length∧Ab (C9 s) 0=36:=⟨by omega,by rw[←a3,FG];exact h2⟩;refine Sa ?_;refine Cu λw4 ab ah=>?_;replace hR:=hR.chg ab Aee;replace hx:=hx.step ab Aee;refine Sa ?_;refine QW.head (a+1) ⟨hx,hR,?_,by omega,?_⟩ CT
    ·rw[K9,decide_eq_true e1];exact ah
    ·rw[Cf,IJ,if_pos e1,←a3,Ace]
   ·have h2:Ab s a≠36:=by simpa using h2
    have e1:¬(0<(C9 s).length∧Ab (C9 s) 0=36):=by
     rintro⟨_,h⟩;rw[←a3,FG] at h;exact h2 h
    refine Sa ?_;refine QW.head a ⟨hx,hR,?_,ha,?_⟩ CT
    ·rw[K9,decide_eq_false e1];exact hC
    ·rw[Cf,IJ,if_neg e1,a3]
  ·have h1:a=s.length:=by simp at h1;omega
   have e1:¬(0<(C9 s).length∧Ab (C9 s) 0=36):=by
    rintro⟨h,_⟩;omega
   refine Sa ?_;refine QW.head a ⟨hx,hR,?_,ha,?_⟩ CT
   ·rw[K9,decide_eq_false e1];exact hC
   ·rw[Cf,IJ,if_neg e1,a3]
 clear hx hR hC ha a3 ax a;rintro a w4 ⟨hx,hR,hC,ha,a3⟩;apply CW.seq;apply CW.region;refine Sl ?_;apply LW.nil;apply QW.then_n;apply CW.seq;refine CW.cut (ι:=Nat) (λk w'=>Ah w w'∧Blk w' R (AU I9) 187∧Blk w' C [Aq (CU s),.int .i64 0,.int .i64 0,.bool (Lib.hasPrefix (C9 s) [36]),.bool false] 187∧a≤k∧k≤s.length∧cut s a k=Ak AQ (Cf s)∧s.drop k=Ds s)
  (λk=>[(0,Aq s),(2,.pointer (some ⟨R,0,none⟩)),(3,.bool false),(4,.pointer (some ⟨C,0,none⟩)),(5,.int .i64 a),(7,.int .i64 k)]) ?_ ?_
 ·refine Sa ?_;refine CW.loop (ι:=Nat) (λk w'=>a≤k∧k≤s.length∧Ah w w'∧Blk w' R (AU I9) 187∧Blk w' C [Aq (CU s),.int .i64 0,.int .i64 0,.bool (Lib.hasPrefix (C9 s) [36]),.bool false] 187∧∀j,j<k - a→AQ (Ab (Cf s) j)=true)
   (λk=>[(0,Aq s),(2,.pointer (some ⟨R,0,none⟩)),(3,.bool false),(4,.pointer (some ⟨C,0,none⟩)),(5,.int .i64 a),(7,.int .i64 k)]) (λk=>s.length - k) a ⟨by omega,ha,hx,hR,hC,by omega⟩ Ib ?_
  clear hx hR hC;rintro k w5 ⟨ad,hk,hx,hR,hC,a0⟩;have b7:(Cf s).length=s.length - a:=by rw[←a3];simp
  have an:Ab (Cf s) (k - a)=Ab s k:=by
   rw[←a3,FG];congr 1;omega
  have fin:k=s.length∨AQ (Ab s k)=false→cut s a k=Ak AQ (Cf s)∧s.drop k=Ds s:=λh=>by
   have sp:=KG AQ (Cf s) (k - a) Aeb a0 (by
    rcases h with h | h
    ·exact Or.inl Aeb
    ·exact Or.inr (by rw[an];exact h))
   refine⟨?_,?_⟩
   ·unfold cut;rw[a3];exact sp.1
   ·have:s.drop k=(s.drop a).drop (k - a):=by rw[Ace];congr 1;omega
    rw[this,a3];exact sp.2
  refine Sa ?_;refine B8 (λh1=>?_) λh1=>?_
  ·have h1:k<s.length:=by simpa using h1
   refine Sa ?_;refine Ap rfl rfl (Dj _ _) ?_;rintro v w6 ⟨rfl,a7⟩;replace hR:=hR.ext a7;replace hC:=hC.ext a7;replace hx:=hx.trans a7;refine Sa ?_;refine Av (λh2=>?_) λh2=>?_
   ·have h2:AQ (Ab s k)=true:=h2;refine Sa ?_;refine QW.again (k+1) ⟨by omega,by omega,hx,hR,hC,?_⟩ Ib Aeb;intro j hj;by_cases ac:j=k - a
    ·subst ac;rw[an];exact h2
    ·exact a0 j Aeb
   ·have h2:AQ (Ab s k)=false:=h2;refine Sa ?_;exact QW.head k ⟨hx,hR,hC,ad,hk,fin (Or.inr h2)⟩ Ib
  ·have h1:k=s.length:=by simp at h1;omega
   refine Sa ?_;exact QW.head k ⟨hx,hR,hC,ad,hk,fin (Or.inl h1)⟩ Ib
 clear hx hR hC;rintro k w5 ⟨hx,hR,hC,ad,hk,ai,a4⟩;have b8:(Ak AQ (Cf s)).length≤1000:=by rw[←ai];simp[cut];omega
 have b9:=J9 (Ak AQ (Cf s));have ay:(Ds s).length=s.length - k:=by rw[←a4];simp
 apply CW.seq;apply CW.region;refine Sl ?_;refine LW.slice_str (i:=a) (j:=k) rfl rfl rfl ⟨_,_,rfl,rfl⟩ ⟨_,_,rfl,rfl⟩ ad hk rfl ?_;refine Sl ?_;rw[ai];refine Ap rfl rfl (Q2 _ Aeb w5) ?_;rintro v w6 ⟨rfl,a7⟩;rw[KA];replace hR:=hR.ext a7;replace hC:=hC.ext a7;replace hx:=hx.trans a7;refine Sl ?_;apply LW.nil;apply QW.then_n;apply CW.seq;refine CW.cut (ι:=Nat) (λk w'=>Ah w w'∧Blk w' R (AU I9) 187∧Blk w' C [Aq (CU s),.int .i64 0,.int .i64 0,.bool (Lib.hasPrefix (C9 s) [36]),.bool (Lib.hasPrefix (Ds s) [36])] 187∧k≤s.length∧s.drop k=Cq s)
  (λk=>[(0,Aq s),(2,.pointer (some ⟨R,0,none⟩)),(3,.bool false),(4,.pointer (some ⟨C,0,none⟩)),(7,.int .i64 k),(8,.int .i64 ((AL (Ak AQ (Cf s))).getD 0)),(9,.bool (AL (Ak AQ (Cf s))).isSome)]) ?_ ?_
 ·refine Sa ?_;refine B8 (λh1=>?_) λh1=>?_
  ·have h1:k<s.length:=by simpa using h1
   refine Sa ?_;refine Av (λh2=>?_) λh2=>?_
   ·have h2:Ab s k=36:=by simpa using h2
    have e1:0<(Ds s).length∧Ab (Ds s) 0=36:=⟨by omega,by rw[←a4,FG];exact h2⟩;refine Sa ?_;refine Cu λw7 ao az=>?_;replace hR:=hR.chg ao Aee;replace hx:=hx.step ao Aee;refine Sa ?_;refine QW.head (k+1) ⟨hx,hR,?_,by omega,?_⟩ Jv
    ·rw[K9 (Ds s),decide_eq_true e1];exact az
    ·rw[Cq,IJ,if_pos e1,←a4,Ace]
   ·have h2:Ab s k≠36:=by simpa using h2
    have e1:¬(0<(Ds s).length∧Ab (Ds s) 0=36):=by
     rintro⟨_,h⟩;rw[←a4,FG] at h;exact h2 h
    refine Sa ?_;refine QW.head k ⟨hx,hR,?_,hk,?_⟩ Jv
    ·rw[K9 (Ds s),decide_eq_false e1];exact hC
    ·rw[Cq,IJ,if_neg e1,a4]
  ·have h1:k=s.length:=by simp at h1;omega
   have e1:¬(0<(Ds s).length∧Ab (Ds s) 0=36):=by
    rintro⟨h,_⟩;omega
   refine Sa ?_;refine QW.head k ⟨hx,hR,?_,hk,?_⟩ Jv
   ·rw[K9 (Ds s),decide_eq_false e1];exact hC
   ·rw[Cq,IJ,if_neg e1,a4]
 clear hx hR hC ad hk ai a4 ay a7 k ha a3 a;rintro k w7 ⟨hx,hR,hC,hk,a4⟩;have b0:(Cq s).length=s.length - k:=by rw[←a4];simp
 apply CW.seq;apply CW.region;refine Sl ?_;apply LW.nil;apply QW.then_n;apply CW.seq;apply CW.seq;apply CW.region;refine Sl ?_;apply LW.nil;apply QW.then_n;refine CW.cut (ι:=Unit) (λ_ w'=>Ah w w'∧Blk w' R (AU I9) 187∧Blk w' C [Aq (CU s),.int .i64 0,.int .i64 0,.bool (Lib.hasPrefix (C9 s) [36]),.bool (Lib.hasPrefix (Ds s) [36])] 187∧0≤A1 0 ((Cq s).take 4)∧A1 0 ((Cq s).take 4)≤10000)
  (λ_=>[(0,Aq s),(2,.pointer (some ⟨R,0,none⟩)),(3,.bool false),(4,.pointer (some ⟨C,0,none⟩)),(8,.int .i64 ((AL (Ak AQ (Cf s))).getD 0)),(9,.bool (AL (Ak AQ (Cf s))).isSome),(10,.int .i64 (A1 0 ((Cq s).take 4)))]) ?_ ?_
 ·refine Sa ?_;refine CW.loop (ι:=Nat) (λi w'=>i≤4∧k+i≤s.length∧Ah w w'∧Blk w' R (AU I9) 187∧Blk w' C [Aq (CU s),.int .i64 0,.int .i64 0,.bool (Lib.hasPrefix (C9 s) [36]),.bool (Lib.hasPrefix (Ds s) [36])] 187∧∀j,j<i→Ar (Ab (Cq s) j)=true)
   (λi=>[(0,Aq s),(2,.pointer (some ⟨R,0,none⟩)),(3,.bool false),(4,.pointer (some ⟨C,0,none⟩)),(7,.int .i64 k),(8,.int .i64 ((AL (Ak AQ (Cf s))).getD 0)),(9,.bool (AL (Ak AQ (Cf s))).isSome),(10,.int .i64 (A1 0 ((Cq s).take i))),(11,.int .i64 ((k+i:Nat):Int))]) (λi=>4 - i) 0 ⟨by omega,hk,hx,hR,hC,by omega⟩ Tx ?_
  clear hx hR hC;rintro i w8 ⟨hi,ba,hx,hR,hC,a0⟩;have af:=GY ((Cq s).take i) (λj hj=>by
   have ap:j<i:=by simp at hj;omega
   have bb:j<(Cq s).length:=Aeb
   have:=a0 j ap;have e:Ab ((Cq s).take i) j=Ab (Cq s) j:=by
    unfold Ab;rw[AaA,AaA,List.getElem?_take,if_pos ap]
   rw[e];exact this)
  have b1:((Cq s).take i).length=i:=Aee
  rw[b1] at af;have bc:(10:Int) ^ i≤10000:=by
   have:i=0∨i=1∨i=2∨i=3∨i=4:=Aeb
   rcases this with rfl | rfl | rfl | rfl | rfl<;>decide
  have fin:(k+i=s.length∨i=4)→(Cq s).take i=(Cq s).take 4:=λh=>by
   rcases h with h | h
   ·rw[Acq Aeb,Acq Aeb]
   ·rw[h]
  refine Sa ?_;refine B8 (λh1=>?_) λh1=>?_
  ·have h1:k+i<s.length:=by simp at h1;omega
   refine Sa ?_;refine Av (λh2=>?_) λh2=>?_
   ·have h2:i<4:=by simp at h2;omega
    refine Sa ?_;refine Ap rfl rfl (EQ _ _) ?_;rintro v w9 ⟨rfl,aj⟩;replace hR:=hR.ext aj;replace hC:=hC.ext aj;replace hx:=hx.trans aj;have ag:Ab (Cq s) i=Ab s (k+i):=by rw[←a4,FG]
    have bd:=CQ s (k+i);refine Sa ?_;refine Av (λh3=>?_) λh3=>?_
    ·have h3:Ar (Ab (Cq s) i)=false:=by
      have h3:(!Ar (Ab s (k+i)))=true:=h3;rw[ag];simpa using h3
     refine Sa ?_;refine AF λak a6 al=>?_;refine Sa ?_;refine QW.body_ct rfl rfl al rfl rfl rfl rfl ⟨?_,hx.step a6 Aee⟩;rw[Mk (Wn Aeb h3)];rfl
    ·have h3:Ar (Ab (Cq s) i)=true:=by
      have h3:(!Ar (Ab s (k+i)))=false:=h3;rw[ag];simpa using h3
     have h4:48≤Ab s (k+i)∧Ab s (k+i)≤57:=by rw[ag] at h3;simpa[Ar] using h3
     have e4:Ab s ((k+i:Nat):Int).toNat=Ab s (k+i):=rfl;refine Sa ?_;have aq:i<(Cq s).length:=Aeb
     have e5:A1 0 ((Cq s).take (i+1))=10*A1 0 ((Cq s).take i)+(Ab s (k+i) - 48):=by
      rw[JZ aq,FL,←B2 aq,ag]
     refine QW.again (i+1) ⟨by omega,by omega,hx,hR,hC,?_⟩ (An.cons rfl (An.cons rfl (An.cons rfl (An.cons rfl (An.cons rfl (An.cons rfl (An.cons rfl (An.cons (by rw[e5];exact rfl) (An.cons rfl An.nil))))))))) Aeb;intro j hj;by_cases ac:j=i
     ·subst ac;exact h3
     ·exact a0 j Aeb
   ·have h2:i=4:=by simp at h2;omega
    subst h2;refine Sa ?_;exact QW.head () ⟨hx,hR,hC,af.1,by omega⟩ Jv
  ·have h1:k+i=s.length:=by simp at h1;omega
   have e6:=fin (Or.inl h1);rw[e6] at af;refine Sa ?_;refine QW.head () ⟨hx,hR,hC,af.1,by omega⟩ (An.cons rfl (An.cons rfl (An.cons rfl (An.cons rfl (An.cons rfl (An.cons rfl (An.cons (by rw[←e6];exact rfl) An.nil)))))))
 clear hx hR hC hk a4 b0 k;rintro _ w8 ⟨hx,hR,hC,be,bf⟩;have ar:(CU s).length≤1000:=by
  unfold CU;split
  ·exact Acd (Rg s [33]) hs
  ·simp
 refine Sa ?_;refine Cu λw9 au hC=>?_;replace hR:=hR.chg au Aee;replace hx:=hx.step au Aee;refine Sa ?_;refine Cu λak a6 hC=>?_;replace hR:=hR.chg a6 Aee;replace hx:=hx.step a6 Aee;replace hC:Blk ak C (AU (J8 s)) 187:=hC;have bad:(AZ (J8 s)=false∨Cl (J8 s)≠s∨(AL (Ak AQ (Cf s))).isSome=false)→AV s=false:=λh=>Q3 λr hr e=>by
  obtain⟨e1,e2⟩:=Zh hr e;rcases h with h | h | h
  ·rw[e1,hr] at h;cases h
  ·rw[e1,Cl,if_pos hr] at h;exact h e
  ·rw[e2] at h;cases h
 refine Sa ?_
 cases b2:(AL (Ak AQ (Cf s))).isSome with
 | false=>
  have a5:=bad (Or.inr (Or.inr b2));refine Sa ?_;refine AF λam a1 a2=>?_;refine Sa ?_;refine QW.body_ct rfl rfl a2 rfl rfl rfl rfl ⟨?_,hx.step a1 Aee⟩;rw[Mk a5]
  rfl
 | true=>
  refine Sa ?_;refine Ap rfl rfl (I6 (J8 s) (Acd ar Aeb) ak) ?_;rintro v b3 ⟨rfl,a8⟩;replace hR:=hR.ext a8;replace hC:=hC.ext a8;replace hx:=hx.trans a8
  cases hm:AZ (J8 s) with
  | false=>
   have a5:=bad (Or.inl hm);refine Sa ?_;refine AF λam a1 a2=>?_;refine Sa ?_;refine QW.body_ct rfl rfl a2 rfl rfl rfl rfl ⟨?_,hx.step a1 Aee⟩;rw[Mk a5]
   rfl
  | true=>
   refine Sa ?_;refine Ap rfl rfl (Gv (J8 s) ar b3) ?_;rintro v bg ⟨rfl,a9⟩;replace hR:=hR.ext a9;replace hC:=hC.ext a9;replace hx:=hx.trans a9;refine Sa ?_;refine Av (λh1=>?_) λh1=>?_
   ·have h1:Cl (J8 s)≠s:=by simpa using h1
    have a5:=bad (Or.inr (Or.inl h1));refine Sa ?_;refine AF λam a1 a2=>?_;refine Sa ?_;refine QW.body_ct rfl rfl a2 rfl rfl rfl rfl ⟨?_,hx.step a1 Aee⟩;rw[Mk a5];rfl
   ·have h1:Cl (J8 s)=s:=by simpa using h1
    refine Sa ?_;refine AF λam a1 a2=>?_;refine Sa ?_;refine QW.body_ct rfl rfl a2 rfl rfl rfl rfl ⟨?_,hx.step a1 Aee⟩;rw[Cl,if_pos hm] at h1;obtain⟨e1,e2⟩:=Pw hm;rw[h1] at e1 e2;rw[F2,if_pos e1,e2];rfl
def GC(c:Int):Bool:=AQ c||(decide (97≤c)&&decide (c≤122))||decide (c=36)
def DM(c:Int):Bool:=GC c||Ar c||decide (c=33)
def FD(c:Int):Bool:=decide (c=32)
def Xl(c:Int):Bool:=AQ c||Ar c
def KL(l:List UInt8):Bool:=decide (l≠[])&&decide (l.length≤12)&&AQ (Ab l 0)&&decide (∀j,j<l.length→Xl (Ab l j)=true)
theorem UO:KL []=false:=rfl
theorem Rp{l:List UInt8}(h:12<l.length):KL l=false:=by simp[KL];intros;omega
theorem OU{l:List UInt8}(h:AQ (Ab l 0)=false):KL l=false:=by simp[KL,h]
theorem XL{l:List UInt8}{k:Nat}(hk:k<l.length)(h:Xl (Ab l k)=false):KL l=false:=by
 simp only[KL,Adz,decide_eq_false_iff_not];exact Or.inr λhh=>by rw[hh k hk] at h;cases h
theorem Rr{l:List UInt8}(h0:l≠[])(h1:l.length≤12)(h2:AQ (Ab l 0)=true)(h3:∀j,j<l.length→Xl (Ab l j)=true):KL l=true:=by
 simp[KL,h0,h1,h2];exact h3
structure As where
 kind:Int
 text:List UInt8
 num:Int
 ref:C3
 at_:Int
deriving DecidableEq
def Bj(x:As):List Value:=[.int .i64 x.kind,Aq x.text,.int .i64 x.num,Aq x.ref.sheet,.int .i64 x.ref.col,.int .i64 x.ref.row,.bool x.ref.ac,.bool x.ref.ar,.int .i64 x.at_]
def A4:C3:=⟨[],0,0,false,false⟩
theorem Dz(l:List UInt8)(a k:Nat):Ab (l.drop a) k=Ab l (a+k):=by
 simp[Ab]
theorem M5{s:List UInt8}{a k:Nat}:cut s a k=(s.take k).drop a:=by rw[cut,AdY]
theorem Ho(p:Int→Bool)(s:List UInt8)(a k:Nat)(ha:a≤k)(hk:k≤s.length)(hall:∀j,a≤j→j<k→p (Ab s j)=true)(h:k=s.length∨p (Ab s k)=false) :
  (s.take k).drop a=Ak p (s.drop a)∧k=a+(Ak p (s.drop a)).length:=by
 have:=KG p (s.drop a) (k - a) Aee (λj hj=>by rw[Dz];exact hall _ Aeb Aeb) (by
  rcases h with h | h
  ·exact Or.inl Aee
  ·exact Or.inr (by rw[Dz,show a+(k - a)=k by omega];exact h))
 have e:(s.take k).drop a=(s.drop a).take (k - a):=by rw[AdY]
 have h2:=congrArg List.length this.1;rw[e,this.1];refine⟨rfl,?_⟩;rw[←h2];simp;omega
def L4(l:List UInt8):Option (As×Nat):=
 let sp:=Ak Ar l
 match Lib.atoiAll sp with
 | .ok z=>if Ab sp 0≠48∨sp.length=1 then some (⟨1,[],z,A4,0⟩,sp.length) else none
 | _=>none
def Eg(l:List UInt8):Option (As×Nat):=
 let sp:=Ak DM l
 if AV sp then some (⟨4,[],0,D0 sp,0⟩,sp.length) else if KL sp then some (⟨3,sp,0,A4,0⟩,sp.length) else none
def Ea:List UInt8:=[35,82,69,70,33]
def Bf:List (List UInt8):=[[60,62],[60,61],[62,61],[43],[45],[42],[47],[38],[61],[60],[62],[40],[41],[44],[58]]
def Fk(l:List UInt8):Option (As×Nat):=
 if Lib.hasPrefix l Ea then some (⟨6,[],0,A4,0⟩,5) else(Bf.find? λs=>Lib.hasPrefix l s).map λs=>(⟨5,s,0,A4,0⟩,s.length)
def AR:List UInt8→Option (List UInt8×Nat)
 | []=>none
 | [c]=>if c=34 then some ([],1) else none
 | c::d::r=>
  if c=34 then(if d=34 then(AR r).map λx=>(34::x.1,x.2+2) else some ([],1))
  else if c<32 then none else(AR (d::r)).map λx=>(c::x.1,x.2+1)
def E3(l:List UInt8):Option (As×Nat):=(AR (l.drop 1)).map λx=>(⟨2,x.1,0,A4,0⟩,x.2+1)
def Ct(l:List UInt8):Option (As×Nat):=
 if Ar (Ab l 0) then L4 l else if Ab l 0=34 then E3 l else if GC (Ab l 0) then Eg l else Fk l
theorem UW{l:List UInt8}{z:Int}(h:Lib.atoiAll (Ak Ar l)=.ok z):L4 l=if Ab (Ak Ar l) 0≠48∨(Ak Ar l).length=1 then some (⟨1,[],z,A4,0⟩,(Ak Ar l).length) else none:=by
 simp only[L4,h]
theorem RS{l:List UInt8}(h:∀z,Lib.atoiAll (Ak Ar l)≠.ok z):L4 l=none:=by
 unfold L4
 cases e:Lib.atoiAll (Ak Ar l) with
 | ok z=>exact absurd e (h z)
 | _=>simp only[e]
theorem Nh{α:Type}(p:α→Bool)(d:α):∀(l:List α) (k:Nat),k<l.length→(∀j,j<k→p (l.getD j d)=false)→p (l.getD k d)=true→l.find? p=some (l.getD k d)
 | [],k,hk,_,_=>by simp at hk
 | x::r,0,_,_,h=>by
  have h:p x=true:=h
  simp[List.find?,h]
 | x::r,k+1,hk,hn,h=>by
  have h0:p x=false:=hn 0 Aeb;have ih:=Nh p d r k (by simpa using hk) (λj hj=>hn (j+1) Aeb) h;simp only[List.find?,h0];exact ih
theorem OR{α:Type}(p:α→Bool)(d:α):∀(l:List α),(∀j,j<l.length→p (l.getD j d)=false)→l.find? p=none
 | [],_=>rfl
 | x::r,hn=>by
  have h0:p x=false:=hn 0 Aej;simp only[List.find?,h0];exact OR p d r (λj hj=>hn (j+1) Aee)
theorem L8{s p:List UInt8}(h:Lib.hasPrefix s p=true):p.length≤s.length:=(Adh.1 h).length_le
theorem IH{p:Int→Bool}{l:List UInt8}(hl:0<l.length)(h:p (Ab l 0)=true):0<(Ak p l).length∧Ab (Ak p l) 0=Ab l 0:=by
 cases l with
 | nil=>simp at hl
 | cons c r=>
  have hc:p (c.toNat:Int)=true:=h;simp[Ak,hc];rfl
theorem E0(p:Int→Bool)(l:List UInt8):(Ak p l).length≤l.length:=(List.takeWhile_prefix _).length_le
theorem Gx{s:List UInt8}{i:Nat}(h:i<s.length):∃c,s.drop i=c::s.drop (i+1)∧Ab s i=(c.toNat:Int):=
 ⟨s[i],Acp h,B2 h⟩
theorem YR{c:UInt8}(h:(c.toNat:Int)=34):c=34:=Adn.1 (by simpa using(by omega:c.toNat=34))
theorem QD{c:UInt8}(h:(c.toNat:Int)≠34):c≠34:=by
 rintro rfl;exact h rfl
theorem ZH{c:UInt8}(h:(c.toNat:Int)<32):c<32:=AcZ.2 (by simpa using(by omega:c.toNat<32))
theorem ZG{c:UInt8}(h:¬(c.toNat:Int)<32):¬c<32:=λhh=>h (by have:=AcZ.1 hh;simp at this;omega)
theorem SN{s:List UInt8}{i:Nat}(h:s.length≤i):AR (s.drop i)=none:=by
 rw[Acm h];rfl
theorem SQ{s:List UInt8}{i:Nat}(h:i+1<s.length)(h1:Ab s i=34)(h2:Ab s (i+1)=34):AR (s.drop i)=(AR (s.drop (i+2))).map λx=>(34::x.1,x.2+2):=by
 obtain⟨c,e,hc⟩:=Gx (show i<s.length by omega);obtain⟨d,e2,hd⟩:=Gx h;rw[e,e2];obtain rfl:=YR (hc.symm.trans h1);obtain rfl:=YR (hd.symm.trans h2);simp[AR]
theorem HI{s:List UInt8}{i:Nat}(h:i<s.length)(h1:Ab s i=34)(h2:i+1<s.length→Ab s (i+1)≠34):AR (s.drop i)=some ([],1):=by
 obtain⟨c,e,hc⟩:=Gx h;rw[e];obtain rfl:=YR (hc.symm.trans h1);by_cases hl:i+1<s.length
 ·obtain⟨d,e2,hd⟩:=Gx hl;rw[e2];have:=QD (c:=d) (by rw[←hd];exact h2 hl);simp[AR,this]
 ·rw[Acm Aeb];simp[AR]
theorem SP{s:List UInt8}{i:Nat}(h:i<s.length)(h1:Ab s i<32):AR (s.drop i)=none:=by
 obtain⟨c,e,hc⟩:=Gx h;rw[e];have h3:=ZH (c:=c) (by rw[←hc];exact h1);have h4:=QD (c:=c) Aeb
 cases s.drop (i+1) with
 | nil=>simp[AR,h4]
 | cons d r=>simp[AR,h4,h3]
theorem Vk{s:List UInt8}{i:Nat}(h:i<s.length)(h1:Ab s i≠34)(h2:¬Ab s i<32):AR (s.drop i)=(AR (s.drop (i+1))).map λx=>(ch (Ab s i)::x.1,x.2+1):=by
 obtain⟨c,e,hc⟩:=Gx h;rw[e];have h3:=ZG (c:=c) (by rw[←hc];exact h2);have h4:=QD (c:=c) (by rw[←hc];exact h1);have h5:ch (Ab s i)=c:=by rw[hc];simp[ch]
 rw[h5]
 cases s.drop (i+1) with
 | nil=>simp[AR,h4]
 | cons d r=>simp[AR,h4,h3]
def EE(s:List UInt8)(a i:Nat)(out:List UInt8):Prop:=a≤i∧AR (s.drop a)=(AR (s.drop i)).map λx=>(out++x.1,x.2+(i - a))
theorem EE.start(s:List UInt8)(a:Nat):EE s a a []:=⟨Ab2 _,by simp⟩
theorem EE.go{s:List UInt8}{a i j:Nat}{out:List UInt8}{c:UInt8}(h:EE s a i out)(hj:i≤j)(e:AR (s.drop i)=(AR (s.drop j)).map λx=>(c::x.1,x.2+(j - i))):EE s a j (out++[c]):=by
 refine⟨by have:=h.1;omega,?_⟩;rw[h.2,e,Option.map_map]
 congr 1
 funext x
 have:=h.1;simp;omega
def FY(l:List UInt8)(a:Nat):Option (List As):=
 match _h:l.drop (Ak FD l).length with
 | []=>some [⟨0,[],0,A4,((a+(Ak FD l).length:Nat):Int)⟩]
 | c::r=>match Ct (c::r) with
  | none=>none
  | some (t,k)=>if _hk:k=0 then none else(FY ((c::r).drop k) (a+(Ak FD l).length+k)).map ({t with at_:=((a+(Ak FD l).length:Nat):Int)}::·)
 termination_by l.length
 decreasing_by
 have:=congrArg List.length _h;simp at this;simp;omega
def Ic(s:List UInt8):Option (List As):=FY s 0
theorem Fa{l:List UInt8}{a:Nat}(h:l.drop (Ak FD l).length=[]):FY l a=some [⟨0,[],0,A4,((a+(Ak FD l).length:Nat):Int)⟩]:=by
 rw[FY]
 split
 ·rfl
 ·rename_i c r e;rw[h] at e;cases e
theorem FZ{l l':List UInt8}{a:Nat}(h:l.drop (Ak FD l).length=l')(hl:l'≠[])(h1:Ct l'=none):FY l a=none:=by
 rw[FY]
 split
 ·rename_i e;rw[h] at e;exact absurd e hl
 ·rename_i c r e;rw[h] at e;subst e;rw[h1]
theorem Gz{l l':List UInt8}{a k:Nat}{t:As}(h:l.drop (Ak FD l).length=l')(hl:l'≠[])(h1:Ct l'=some (t,k))(hk:0<k) :
  FY l a=(FY (l'.drop k) (a+(Ak FD l).length+k)).map ({t with at_:=((a+(Ak FD l).length:Nat):Int)}::·):=by
 rw[FY]
 split
 ·rename_i e;rw[h] at e;exact absurd e hl
 ·rename_i c r e;rw[h] at e;subst e;rw[h1];simp only;rw[dif_neg Aeb]
theorem NJ{l:List UInt8}{t:As}{k:Nat}(h:L4 l=some (t,k)):k=(Ak Ar l).length∧t.kind=1:=by
 unfold L4 at h;simp only at h
 split at h
 ·split at h
  ·simp only[AaZ,AbJ] at h;exact⟨h.2.symm,by rw[←h.1]⟩
  ·cases h
 ·cases h
theorem Un:AV []=false:=by decide +kernel
theorem PF{l:List UInt8}{t:As}{k:Nat}(h:Eg l=some (t,k)):k=(Ak DM l).length∧0<k:=by
 unfold Eg at h;simp only at h
 split at h
 ·rename_i hr;simp only[AaZ,AbJ] at h;refine⟨h.2.symm,?_⟩;rw[←h.2]
  cases e:Ak DM l with
  | nil=>rw[e,Un] at hr;cases hr
  | cons _ _=>simp
 ·split at h
  ·rename_i hr;simp only[AaZ,AbJ] at h;refine⟨h.2.symm,?_⟩;rw[←h.2]
   cases e:Ak DM l with
   | nil=>rw[e,UO] at hr;cases hr
   | cons _ _=>simp
  ·cases h
theorem WZ{l:List UInt8}{t:As}{k:Nat}(h:E3 l=some (t,k)):0<k:=by
 unfold E3 at h
 cases e:AR (l.drop 1) with
 | none=>rw[e] at h;cases h
 | some x=>
  rw[e] at h;simp only[AbG,AaZ,AbJ] at h;omega
theorem WO{l:List UInt8}{t:As}{k:Nat}(h:Fk l=some (t,k)):0<k:=by
 unfold Fk at h
 split at h
 ·simp only[AaZ,AbJ] at h;omega
 ·cases e:Bf.find? λs=>Lib.hasPrefix l s with
  | none=>rw[e] at h;cases h
  | some x=>
   rw[e] at h;simp only[AbG,AaZ,AbJ] at h;have hm:=Adl e;have:∀s∈Bf,0<s.length:=Aef
   have:=this x hm;omega
theorem Fe{l:List UInt8}(hl:l≠[]){t:As}{k:Nat}(h:Ct l=some (t,k)):0<k:=by
 unfold Ct at h
 split at h
 ·rename_i hd;rw[(NJ h).1];exact(IH (AbB.2 hl) hd).1
 ·split at h
  ·exact WZ h
  ·split at h
   ·exact(PF h).2
   ·exact WO h
theorem TZ{l m:List UInt8}{a b:Nat}(h:l.drop (Ak FD l).length=m.drop (Ak FD m).length)(ha:a+(Ak FD l).length=b+(Ak FD m).length):FY l a=FY m b:=by
 cases e:m.drop (Ak FD m).length with
 | nil=>rw[Fa (h.trans e),Fa e,ha]
 | cons c r=>
  cases ho:Ct (c::r) with
  | none=>rw[FZ (h.trans e) Aej ho,FZ e Aej ho]
  | some x=>
   obtain⟨t,k⟩:=x;have hk:=Fe Aej ho;rw[Gz (h.trans e) Aej ho hk,Gz e Aej ho hk,ha]
theorem Q9:∀(l:List UInt8) {x:List UInt8×Nat},AR l=some x→x.2≤l.length
 | [],x,h=>by simp[AR] at h
 | [c],x,h=>by
  simp only[AR] at h
  split at h
  ·simp only[AaZ] at h;subst h;simp
  ·cases h
 | c::d::r,x,h=>by
  simp only[AR] at h
  split at h
  ·split at h
   ·cases e:AR r with
    | none=>rw[e] at h;cases h
    | some y=>
     rw[e] at h;simp only[AbG,AaZ] at h;have:=Q9 r e;subst h;simp;omega
   ·simp only[AaZ] at h;subst h;simp
  ·split at h
   ·cases h
   ·cases e:AR (d::r) with
    | none=>rw[e] at h;cases h
    | some y=>
     rw[e] at h;simp only[AbG,AaZ] at h;have:=Q9 (d::r) e;subst h;simp at this ⊢;omega
theorem Qr{l:List UInt8}{t:As}{k:Nat}(h:Ct l=some (t,k)):k≤l.length:=by
 unfold Ct at h
 split at h
 ·rw[(NJ h).1];exact E0 _ _
 ·split at h
  ·unfold E3 at h
   cases e:AR (l.drop 1) with
   | none=>rw[e] at h;cases h
   | some x=>
    rw[e] at h;simp only[AbG,AaZ,AbJ] at h;have:=Q9 _ e
    cases l with
    | nil=>cases e
    | cons c r=>
     simp at this ⊢;omega
  ·split at h
   ·rw[(PF h).1];exact E0 _ _
   ·unfold Fk at h
    split at h
    ·rename_i hp;simp only[AaZ,AbJ] at h;have:=L8 hp;have h5:Ea.length=5:=rfl;omega
    ·cases e:Bf.find? λs=>Lib.hasPrefix l s with
     | none=>rw[e] at h;cases h
     | some x=>
      rw[e] at h;simp only[AbG,AaZ,AbJ] at h;have:=L8 (AdU e);omega
theorem R0:∀(n:Nat) (l:List UInt8) (a:Nat) {out:List As},l.length≤n→FY l a=some out→out.length≤l.length+1
 | n,l,a,out,hn,h=>by
  cases e:l.drop (Ak FD l).length with
  | nil=>
   rw[Fa e] at h;simp only[AaZ] at h
   subst h;simp
  | cons c r=>
   have hl:=congrArg List.length e;simp at hl
   cases ho:Ct (c::r) with
   | none=>rw[FZ e Aej ho] at h;cases h
   | some x=>
    obtain⟨t,k⟩:=x;have hk:=Fe Aej ho;have hk2:=Qr ho;rw[Gz e Aej ho hk] at h
    cases hr:FY ((c::r).drop k) (a+(Ak FD l).length+k) with
    | none=>rw[hr] at h;cases h
    | some y=>
     rw[hr] at h;simp only[AbG,AaZ] at h;subst h
     match n with
     | 0=>omega
     | n+1=>
      have hd:((c::r).drop k).length=r.length+1 - k:=Aej
      have:=R0 n ((c::r).drop k) _ Afz hr;simp only[Abe];rw[hd] at this;omega
theorem R4{s:List UInt8}{l:List As}(h:Ic s=some l):l.length≤s.length+1:=R0 _ s 0 (Ab2 _) h
def Ej(s:List UInt8)(a:Nat)(out:List As):Prop:=Ic s=(FY (s.drop a) a).map (out++·)
theorem Ej.start(s:List UInt8):Ej s 0 []:=by simp[Ej,Ic]
theorem Ej.end{s:List UInt8}{a:Nat}{out:List As}(h:Ej s a out)(he:a+(Ak FD (s.drop a)).length=s.length):Ic s=some (out++[⟨0,[],0,A4,(s.length:Int)⟩]):=by
 rw[h,Fa (by rw[Ace,he,Ad2]),he];rfl
theorem Ej.bad{s:List UInt8}{a c:Nat}{out:List As}(h:Ej s a out)(he:a+(Ak FD (s.drop a)).length=c)(hc:c<s.length)(h1:Ct (s.drop c)=none):Ic s=none:=by
 rw[h,FZ (l':=s.drop c) (by rw[Ace,he]) AeE h1];rfl
theorem Ej.go{s:List UInt8}{a c k:Nat}{out:List As}{t:As}(h:Ej s a out)(he:a+(Ak FD (s.drop a)).length=c)(hc:c<s.length)(h1:Ct (s.drop c)=some (t,k)):Ej s (c+k) (out++[{t with at_:=(c:Int)}]):=by
 have a0:s.drop c≠[]:=by intro hn;have:=congrArg List.length hn;simp at this;omega
 unfold Ej;rw[h,Gz (l':=s.drop c) (by rw[Ace,he]) a0 h1 (Fe a0 h1),he,Ace,Option.map_map]
 congr 1
 funext x
 simp
theorem Ej.blank{s:List UInt8}{a:Nat}{out:List As}(h:Ej s a out)(ha:a<s.length)(hb:Ab s a=32):Ej s (a+1) out:=by
 unfold Ej;rw[h];have e:(Ak FD (s.drop a)).length=(Ak FD (s.drop (a+1))).length+1:=by
  obtain⟨c,e,hc⟩:=Gx ha;rw[e];have:FD (c.toNat:Int)=true:=by simp[FD];omega
  simp[Ak,this]
 have e2:(s.drop a).drop (Ak FD (s.drop a)).length=(s.drop (a+1)).drop (Ak FD (s.drop (a+1))).length:=by
  rw[Ace,Ace,e]
  congr 1
  omega
 have e3:a+(Ak FD (s.drop a)).length=a+1+(Ak FD (s.drop (a+1))).length:=Aeb
 rw[TZ e2 e3]
theorem Pm(acc:Int)(c:UInt8)(r:List UInt8):A1 acc (c::r)=A1 (10*acc+((c.toNat:Int) - 48)) r:=rfl
theorem Jj:∀(l:List UInt8) (acc:Int),0≤acc→(∀c∈l,48≤c.toNat)→acc≤A1 acc l
 | [],acc,_,_=>AcV _
 | c::r,acc,h,hd=>by
  rw[Pm];have hc:=hd c Aej;have:=Jj r (10*acc+((c.toNat:Int) - 48)) Aeb (λx hx=>hd x Afx);omega
theorem K5:∀(l:List UInt8) (acc:Nat),acc<18446744073709551616→(∀c∈l,48≤c.toNat∧c.toNat≤57)→
  Lib.parseUint10 acc l=if A1 acc l<18446744073709551616 then .ok (A1 acc l).toNat else .range
 | [],acc,h,_=>by
  have:A1 acc []=acc:=rfl;simp only[Lib.parseUint10,this];rw[if_pos Aeb]
  rfl
 | c::r,acc,h,hd=>by
  have hc:=hd c Aej;have hr:∀x∈r,48≤x.toNat∧x.toNat≤57:=λx hx=>hd x Afx;have e:(10*(acc:Int)+((c.toNat:Int) - 48))=((acc*10+(c.toNat - 48):Nat):Int):=Aeb
  have hm:=Jj r (10*(acc:Int)+((c.toNat:Int) - 48)) Aeb (λx hx=>(hr x hx).1);simp only[Lib.parseUint10];rw[if_pos hc,Pm]
  split
  ·rw[if_neg Aeb]
  ·split
   ·rw[if_neg Aeb]
   ·rw[K5 r _ Aeb hr,e]
theorem QS{l:List UInt8}(h:l≠[])(hd:∀c∈l,Ar (c.toNat:Int)=true):Lib.atoiAll l=if A1 0 l≤9223372036854775807 then .ok (A1 0 l) else .range:=by
 have a0:∀c∈l,48≤c.toNat∧c.toNat≤57:=λc hc=>by
  have:=hd c hc;simp[Ar] at this;omega
 have hp:=K5 l 0 Aeb a0;have hm:=Jj l 0 Aeb (λc hc=>(a0 c hc).1)
 cases l with
 | nil=>exact absurd rfl h
 | cons c r=>
  have hc:=a0 c Aej;rw[Lib.atoiAll_plain c r Aeb Aeb];have e:Lib.parseMag (c::r)=Lib.parseUint10 0 (c::r):=by simp[Lib.parseMag]
  rw[e,hp];simp only[Int.natCast_zero] at *;by_cases h1:A1 0 (c::r)<18446744073709551616
  ·rw[if_pos h1];simp only[Lib.signless];by_cases h2:A1 0 (c::r)≤9223372036854775807
   ·rw[if_pos h2,if_neg Aeb]
    congr 1
    omega
   ·rw[if_neg h2,if_pos Aeb]
  ·rw[if_neg h1,if_neg Aeb];rfl
theorem Hn(p:Int→Bool):∀(l:List UInt8),∀c∈Ak p l,p (c.toNat:Int)=true
 | [],c,hc=>by simp[Ak] at hc
 | d::r,c,hc=>by
  have ih:=Hn p r;simp only[Ak] at hc ih;cases hd:p (d.toNat:Int)
  ·simp[hd] at hc
  ·simp only[List.takeWhile_cons,hd,if_true,Ab0] at hc;rcases hc with rfl | hc
   ·exact hd
   ·exact ih c hc
theorem K1{l:List UInt8}(h:Ak Ar l≠[]):L4 l=if A1 0 (Ak Ar l)≤9223372036854775807∧(Ab (Ak Ar l) 0≠48∨(Ak Ar l).length=1) then some (⟨1,[],A1 0 (Ak Ar l),A4,0⟩,(Ak Ar l).length) else none:=by
 have ha:=QS h (Hn Ar l);by_cases h1:A1 0 (Ak Ar l)≤9223372036854775807
 ·rw[if_pos h1] at ha;rw[UW ha];simp only[h1,true_and]
 ·rw[if_neg h1] at ha;rw[RS (by intro z hz;rw[ha] at hz;cases hz),if_neg (by intro hh;exact h1 hh.1)]
theorem H4(c:Int)(w:World):A9 prog 229 [.int .u8 c] w (λv w'=>v=.bool (Ar c)∧Ah w w'):=by
 refine AG func229 ntmps229 ?_;refine Sa ?_;refine B8 (λh1=>?_) λh1=>?_
 all_goals
  refine Sa ?_;refine QW.body1 rfl rfl ⟨?_,Chg.refl _ _⟩;simp[Ar,h1]
theorem H3(c:Int)(w:World):A9 prog 267 [.int .u8 c] w (λv w'=>v=.bool (AQ c)∧Ah w w'):=by
 refine AG func267 ntmps267 ?_;refine Sa ?_;refine B8 (λh1=>?_) λh1=>?_
 all_goals
  refine Sa ?_;refine QW.body1 rfl rfl ⟨?_,Chg.refl _ _⟩;simp[AQ,h1]
theorem WR(c:Int)(w:World):A9 prog 194 [.int .u8 c] w (λv w'=>v=.bool (FD c)∧Ah w w'):=by
 refine AG func194 ntmps194 ?_;refine Sa ?_;refine QW.body1 rfl rfl ⟨rfl,Chg.refl _ _⟩
theorem MU(c:Int)(w:World):A9 prog 232 [.int .u8 c] w (λv w'=>v=.bool (GC c)∧Ah w w'):=by
 refine AG func232 ntmps232 ?_;refine Sa ?_;refine Ap rfl rfl (H3 _ _) ?_;rintro v w' ⟨rfl,hx⟩;refine Sa ?_;refine B8 (λh1=>?_) λh1=>?_
 ·refine Sa ?_;refine QW.body1 rfl rfl ⟨?_,hx⟩;simp[GC,h1]
 ·refine Sa ?_;refine B8 (λh2=>?_) λh2=>?_
  ·refine Sa ?_;refine B8 (λh3=>?_) λh3=>?_
   all_goals
    refine Sa ?_;refine QW.body1 rfl rfl ⟨?_,hx⟩;simp[GC,h1,h2,h3]
  ·refine Sa ?_;refine QW.body1 rfl rfl ⟨?_,hx⟩;simp[GC,h1,h2]
theorem U9(c:Int)(w:World):A9 prog 268 [.int .u8 c] w (λv w'=>v=.bool (DM c)∧Ah w w'):=by
 refine AG func268 ntmps268 ?_;refine Sa ?_;refine Ap rfl rfl (MU _ _) ?_;rintro v w1 ⟨rfl,hx⟩;refine Sa ?_;refine B8 (λh1=>?_) λh1=>?_
 ·refine Sa ?_;refine QW.body1 rfl rfl ⟨?_,hx⟩;simp[DM,h1]
 ·refine Sa ?_;refine Ap rfl rfl (H4 _ _) ?_;rintro v w2 ⟨rfl,a0⟩;replace hx:=hx.trans a0;refine Sa ?_;refine B8 (λh2=>?_) λh2=>?_
  all_goals
   refine Sa ?_;refine QW.body1 rfl rfl ⟨?_,hx⟩;simp[DM,h1,h2]
theorem JI(p:Int→Bool)(f:Nat)(hp:∀(c:Int) (w:World),A9 prog f [.int .u8 c] w (λv w'=>v=.bool (p c)∧Ah w w'))(s:List UInt8)(hs:s.length≤1000000)(a:Nat)(ha:a≤s.length)(b:Nat)(w:World)(hB:Blk w b [Aq s,.int .i64 a] 255) :
  A9 prog 193 [.pointer (some ⟨b,0,none⟩),.func (.func f) #[] #[]] w
  (λv w'=>v=Aq (Ak p (s.drop a))∧Chg [b] w w'∧Blk w' b [Aq s,.int .i64 ((a+(Ak p (s.drop a)).length:Nat):Int)] 255):=by
 refine AG func193 ntmps193 ?_;refine Sa ?_;refine CW.loop (ι:=Nat) (λk w'=>a≤k∧k≤s.length∧Ah w w'∧∀j,a≤j→j<k→p (Ab s j)=true) (λk=>[(0,.pointer (some ⟨b,0,none⟩)),(1,.func (.func f) #[] #[]),(5,.int .i64 k)]) (λk=>s.length - k) a ⟨by omega,ha,Chg.refl _ _,by omega⟩ Bp ?_;rintro k w1 ⟨a2,hk,hx,a0⟩;replace hB:=hB.ext hx;refine Sa ?_;refine B8 (λh1=>?_) λh1=>?_
 ·have h1:k<s.length:=by simpa using h1
  refine Sa ?_;refine LW.call (fs:=[]) (cs:=[]) rfl rfl rfl (hp _ _) ?_;rintro v w2 ⟨rfl,a4⟩;replace hB:=hB.ext a4;replace hx:=hx.trans a4;refine Sa ?_;refine Av (λh2=>?_) λh2=>?_
  ·have h2:p (Ab s k)=true:=h2;refine Sa ?_;refine QW.again (k+1) ⟨by omega,by omega,hx,?_⟩ Bp Aeb;intro j a5 hj;by_cases a6:j=k
   ·subst a6;exact h2
   ·exact a0 j a5 Aeb
  ·have h2:p (Ab s k)=false:=h2;obtain⟨e1,e2⟩:=Ho p s a k a2 hk a0 (Or.inr h2);refine Sa ?_;refine Ig ?_;refine Sq ?_;refine QL.slice_str (i:=a) (j:=k) rfl rfl rfl ⟨_,_,rfl,rfl⟩ ⟨_,_,rfl,rfl⟩ a2 hk rfl ?_;refine Sq ?_;refine QL.nil λw4 a1=>?_;replace hB:=hB.ext a1;replace hx:=hx.trans a1;refine Sa ?_;refine Cu λw3 hc a3=>?_;refine Sa ?_;refine QW.body1 rfl rfl ⟨?_,hx.chg.same hc,?_⟩
   ·rw[←e1,M5]
   ·rw[←e2];exact a3
 ·have h1:k=s.length:=by simp at h1;omega
  obtain⟨e1,e2⟩:=Ho p s a k a2 hk a0 (Or.inl h1);refine Sa ?_;refine Ig ?_;refine Sq ?_;refine QL.slice_str (i:=a) (j:=k) rfl rfl rfl ⟨_,_,rfl,rfl⟩ ⟨_,_,rfl,rfl⟩ a2 hk rfl ?_;refine Sq ?_;refine QL.nil λw4 a1=>?_;replace hB:=hB.ext a1;replace hx:=hx.trans a1;refine Sa ?_;refine Cu λw3 hc a3=>?_;refine Sa ?_;refine QW.body1 rfl rfl ⟨?_,hx.chg.same hc,?_⟩
  ·rw[←e1,M5]
  ·rw[←e2];exact a3
def Xt(s:List UInt8)(a b:Nat)(w:World)(o:Option (As×Nat))(v:Value)(w':World):Prop:=
 ∃t ok a',v=.tuple #[.agg ⟨Bj t⟩,.bool ok]∧Chg [b] w w'∧Blk w' b [Aq s,.int .i64 ((a':Nat):Int)] 255∧a'≤s.length∧a≤a'∧o=if ok then some (t,a' - a) else none
theorem _root_.Go.E.Chg.fresh{S S':List Nat}{a b c:World}(h:Chg S a b)(k:Chg S' b c)(hs:∀j,j∈S'→a.heap.size≤j):Chg S a c:=
 (Chg.trans h k).mono λj hj hl=>by
  rcases Ab1.1 hj with hj | hj
  ·exact hj
  ·have:=hs j hj;omega
theorem Pf(s:List UInt8)(w:World)(hs:s.length≤1000000):A9 prog 270 [Aq s] w (λv w'=>v=.bool (KL s)∧Ah w w'):=by
 refine AG func270 ntmps270 ?_;refine Sa ?_;refine B8 (λh0=>?_) λh0=>?_
 ·have h0:s=[]:=by simpa using h0
  subst h0;refine Sa ?_;refine QW.body1 rfl rfl ⟨rfl,Chg.refl _ _⟩
 have h0:s≠[]:=by simpa using h0
 have hp:0<s.length:=AbB.2 h0;refine Sa ?_;refine B8 (λh1=>?_) λh1=>?_
 ·have h1:12<s.length:=by simp at h1;omega
  refine Sa ?_;refine QW.body1 rfl rfl ⟨by rw[Rp h1],Chg.refl _ _⟩
 have h1:s.length≤12:=by simp at h1;omega
 refine Sa ?_;refine Ap rfl rfl (H3 _ _) ?_;rintro v w1 ⟨rfl,hx⟩;refine Sa ?_;refine Av (λh2=>?_) λh2=>?_
 ·refine Sa ?_;refine QW.body1 rfl rfl ⟨?_,hx⟩;rw[OU]
  simpa using h2
 have h2:AQ (Ab s 0)=true:=by simpa using h2
 refine Sa ?_;refine CW.loop (ι:=Nat) (λk w'=>k≤s.length∧Ah w w'∧∀j,j<k→Xl (Ab s j)=true) (λk=>[(0,Aq s),(18,.int .i64 s.length),(19,.int .i64 k)]) (λk=>s.length - k) 0 ⟨by omega,hx,by omega⟩ Bp ?_;rintro k w2 ⟨hk,a1,a0⟩;refine Sa ?_;refine Av (λh3=>?_) λh3=>?_
 ·have h3:k<s.length:=by simpa using h3
  refine Sa ?_;refine Ap rfl rfl (H3 _ _) ?_;rintro v w3 ⟨rfl,a2⟩;refine Sa ?_;refine B8 (λh4=>?_) λh4=>?_
  ·refine Sa ?_;refine Ap rfl rfl (H4 _ _) ?_;rintro v w4 ⟨rfl,a4⟩;refine Sa ?_;refine Av (λh5=>?_) λh5=>?_
   ·refine Sa ?_;refine QW.body1 rfl rfl ⟨?_,(a1.trans a2).trans a4⟩;rw[XL h3];simp at h4 h5;simp[Xl,h4,h5]
   ·refine Sa ?_;refine QW.again (k+1) ⟨by omega,(a1.trans a2).trans a4,?_⟩ Bp Aeb;intro j hj;by_cases a3:j=k
    ·subst a3;simp at h5;simp[Xl,h5]
    ·exact a0 j Aeb
  ·refine Sa ?_;refine QW.again (k+1) ⟨by omega,a1.trans a2,?_⟩ Bp Aeb;intro j hj;by_cases a3:j=k
   ·subst a3;simp at h4;simp[Xl,h4]
   ·exact a0 j Aeb
 ·have h3:k=s.length:=by simp at h3;omega
  subst h3;refine Sa ?_;refine QW.body1 rfl rfl ⟨?_,a1⟩;rw[Rr h0 h1 h2 a0]
theorem Ul(s:List UInt8)(hs:s.length≤1000)(a:Nat)(ha:a<s.length)(hd:Ar (Ab s a)=true)(b:Nat)(w0 w:World)(g:Dq w0)(h0:Ah w0 w)(hb0:w0.heap.size≤b)(hB:Blk w b [Aq s,.int .i64 a] 255) :
  A9 prog 230 [.pointer (some ⟨b,0,none⟩)] w (Xt s a b w (L4 (s.drop a))):=by
 have a8:=E0 Ar (s.drop a);have a5:(s.drop a).length=s.length - a:=Aej
 obtain⟨aa,ab⟩:=IH (p:=Ar) (l:=s.drop a) Aeb (by rw[Dz];exact hd);have ac:=hB.lt;refine AG func230 ntmps230 ?_;refine Sa ?_;refine B1 λC w1 ad hx hC=>?_;have ae:b<C:=Aeb
 replace hB:=hB.ext hx;refine Sa ?_;refine LW.call (fs:=[]) (cs:=[]) rfl rfl rfl (JI Ar _ H4 s Aeb a Aeb b w1 hB) ?_;rintro v w2 ⟨rfl,a3,hB⟩;replace hC:=hC.chg a3 Aee;have a0:Chg [b] w w2:=(Chg.trans hx a3).mono Aej;have a9:Ah w0 w2:=(h0.trans hx).step a3 (by simpa using hb0);refine Sa ?_;refine Ap rfl rfl (Ih _ Aeb w2 (g.ext a9)) ?_;rintro v w3 ⟨hv,a4⟩;replace hC:=hC.ext a4;replace hB:=hB.ext a4;replace a0:=a0.ext a4;unfold Jz at hv;by_cases a6:∃z,Lib.atoiAll (Ak Ar (s.drop a))=.ok z
 ·obtain⟨z,a7⟩:=a6;rw[a7] at hv;rw[UW a7];simp only at hv;subst hv;refine Sa ?_
  (first | (apply LW.eql_nil;exact rfl;exact rfl;exact rfl;exact rfl) | (apply LW.eql_nil_nil;exact rfl;exact rfl;exact rfl;exact rfl))
  refine Sa ?_;refine B8 (λh3=>?_) λh3=>?_
  ·refine Sa ?_;refine AF λw4 a1 hC=>?_;replace hC:Blk w4 C (Bj ⟨1,[],z,A4,0⟩) 203:=hC;replace hB:=hB.chg a1 Aee;replace a0:=a0.fresh a1 Aee;refine Sa ?_;refine QW.body_ct rfl rfl hC rfl rfl rfl rfl ⟨_,_,_,rfl,a0,hB,by omega,by omega,?_⟩;have h3:Ab (Ak Ar (s.drop a)) 0≠48:=by simpa using h3
   simp only[h3,ne_eq,not_false_eq_true,true_or,if_true,AdP]
  ·refine Sa ?_;refine AF λw4 a1 hC=>?_;replace hC:Blk w4 C (Bj ⟨1,[],z,A4,0⟩) 203:=hC;replace hB:=hB.chg a1 Aee;replace a0:=a0.fresh a1 Aee;refine Sa ?_;refine QW.body_ct rfl rfl hC rfl rfl rfl rfl ⟨_,_,_,rfl,a0,hB,by omega,by omega,?_⟩;have h3:Ab (Ak Ar (s.drop a)) 0=48:=by simpa using h3
   simp only[h3,ne_eq,not_true_eq_false,false_or,AdP,decide_eq_true_eq];by_cases h4:(Ak Ar (s.drop a)).length=1
   ·simp[h4]
   ·have h5:¬((Ak Ar (s.drop a)).length:Int)=1:=Aeb
    simp[h4,h5]
 ·have a2:∀z,Lib.atoiAll (Ak Ar (s.drop a))≠.ok z:=λz hz=>a6 ⟨z,hz⟩;rw[RS a2];obtain⟨z,t,x,rfl⟩:∃z t x,v=.tuple #[.int .i64 z,.iface t x]:=by
   split at hv
   ·rename_i z hz;exact absurd hz (a2 z)
   ·exact hv
  refine Sa ?_
  (first | (apply LW.eql_nil;exact rfl;exact rfl;exact rfl;exact rfl) | (apply LW.eql_nil_nil;exact rfl;exact rfl;exact rfl;exact rfl))
  refine Sa ?_;refine AF λw4 a1 hC=>?_;replace hC:Blk w4 C (Bj ⟨1,[],z,A4,0⟩) 203:=hC;replace hB:=hB.chg a1 Aee;replace a0:=a0.fresh a1 Aee;refine Sa ?_;refine QW.body_ct rfl rfl hC rfl rfl rfl rfl ⟨_,_,_,rfl,a0,hB,by omega,by omega,rfl⟩
theorem YV(s:List UInt8)(hs:s.length≤1000)(a:Nat)(ha:a<s.length)(b:Nat)(w0 w:World)(g:Dq w0)(h0:Ah w0 w)(hb0:w0.heap.size≤b)(hB:Blk w b [Aq s,.int .i64 a] 255) :
  A9 prog 233 [.pointer (some ⟨b,0,none⟩)] w (Xt s a b w (Eg (s.drop a))):=by
 have a8:=E0 DM (s.drop a);have a7:(s.drop a).length=s.length - a:=Aej
 have ac:=hB.lt;refine AG func233 ntmps233 ?_;refine Sa ?_;refine B1 λC w1 ad hx hC=>?_;have ae:b<C:=Aeb
 replace hB:=hB.ext hx;refine Sa ?_;refine LW.call (fs:=[]) (cs:=[]) rfl rfl rfl (JI DM _ U9 s Aeb a Aeb b w1 hB) ?_;rintro v w2 ⟨rfl,a4,hB⟩;replace hC:=hC.chg a4 Aee;have a0:Chg [b] w w2:=(Chg.trans hx a4).mono Aej;have a9:Ah w0 w2:=(h0.trans hx).step a4 (by simpa using hb0);refine Sa ?_;refine Ap rfl rfl (QP _ Aeb w2 (g.ext a9)) ?_;rintro v w3 ⟨rfl,a5⟩;replace hC:=hC.ext a5;replace hB:=hB.ext a5;replace a0:=a0.ext a5;have af:=a0.size
 cases hr:AV (Ak DM (s.drop a)) with
 | true=>
  rw[F2,if_pos hr];refine Sa ?_;refine B1 λF w4 aa a1 hF=>?_;have ab:C<F:=by have:=hC.lt;omega
  replace hC:=hC.ext a1;replace hB:=hB.ext a1;replace a0:=a0.ext a1;refine Sa ?_;refine AF λw5 a2 hF=>?_;replace hF:Blk w5 F (AU (D0 (Ak DM (s.drop a)))) 187:=hF;replace hC:=hC.chg a2 Aee;replace hB:=hB.chg a2 Aee;replace a0:=a0.fresh a2 Aee;refine Sa ?_;refine AF λw6 a3 hC=>?_;replace hC:Blk w6 C (Bj ⟨4,[],0,D0 (Ak DM (s.drop a)),0⟩) 203:=hC;replace hB:=hB.chg a3 Aee;replace a0:=a0.fresh a3 Aee;refine Sa ?_;refine QW.body_ct rfl rfl hC rfl rfl rfl rfl ⟨_,_,_,rfl,a0,hB,by omega,by omega,?_⟩
  simp[Eg,hr]
 | false=>
  rw[Mk hr];refine Sa ?_;refine B1 λF w4 aa a1 hF=>?_;have ab:C<F:=by have:=hC.lt;omega
  replace hC:=hC.ext a1;replace hB:=hB.ext a1;replace a0:=a0.ext a1;refine Sa ?_;refine AF λw5 a2 hF=>?_;replace hC:=hC.chg a2 Aee;replace hB:=hB.chg a2 Aee;replace a0:=a0.fresh a2 Aee;refine Sa ?_;refine Ap rfl rfl (Pf _ w5 Aeb) ?_;rintro v w7 ⟨rfl,a6⟩;replace hC:=hC.ext a6;replace hB:=hB.ext a6;replace a0:=a0.ext a6;refine Sa ?_;refine AF λw6 a3 hC=>?_;replace hC:Blk w6 C (Bj ⟨3,Ak DM (s.drop a),0,A4,0⟩) 203:=hC;replace hB:=hB.chg a3 Aee;replace a0:=a0.fresh a3 Aee;refine Sa ?_;refine QW.body_ct rfl rfl hC rfl rfl rfl rfl ⟨_,_,_,rfl,a0,hB,by omega,by omega,?_⟩;simp[Eg,hr]
theorem YM(k:Nat)(hk:k<15):(Bf.map Aq)[k]?=some (Aq (Bf.getD k [])):=by
 have:Bf.length=15:=rfl;simp[Aav (show k<Bf.length by omega)]
theorem WN(s:List UInt8)(hs:s.length≤1000)(a:Nat)(ha:a<s.length)(b:Nat)(w:World)(hB:Blk w b [Aq s,.int .i64 a] 255) :
  A9 prog 234 [.pointer (some ⟨b,0,none⟩)] w (Xt s a b w (Fk (s.drop a))):=by
 have a7:(s.drop a).length=s.length - a:=Aej
 have ad:=hB.lt;refine AG func234 ntmps234 ?_;refine Sa ?_;refine B1 λC w1 ae hx hC=>?_;have af:b<C:=Aeb
 replace hB:=hB.ext hx;refine Sa ?_;refine Ig ?_;refine Sq ?_;refine QL.slice_str (i:=a) (j:=s.length) rfl rfl rfl ⟨_,_,rfl,rfl⟩ rfl Aeb Aeb rfl ?_;refine Sq ?_;refine QL.call0 rfl rfl (λw' _=>J0 _ _ w') ?_;refine Sq ?_;refine QL.nil λw2 a5=>?_;rw[EZ];replace hC:=hC.ext a5;replace hB:=hB.ext a5;replace hx:=hx.trans a5;refine Sa ?_;refine Av (λhd=>?_) λhd=>?_
 ·have ab:=L8 hd;simp only[Abe,Ab3] at ab;refine Sa ?_;refine Cu λw3 a8 hB=>?_;replace hC:=hC.chg a8 Aee;have a0:Chg [b] w w3:=(Chg.trans hx a8).mono Aej;refine Sa ?_;refine AF λw4 a9 hC=>?_;replace hC:Blk w4 C (Bj ⟨6,[],0,A4,0⟩) 203:=hC;replace hB:Blk w4 b [Aq s,.int .i64 ((a+5:Nat):Int)] 255:=hB.chg a9 Aee;replace a0:=a0.fresh a9 Aee;refine Sa ?_;refine QW.body_ct rfl rfl hC rfl rfl rfl rfl ⟨_,_,_,rfl,a0,hB,by omega,by omega,?_⟩;have hd:Lib.hasPrefix (s.drop a) Ea=true:=hd;simp[Fk,hd]
 have hd:Lib.hasPrefix (s.drop a) Ea=false:=hd;refine Sa ?_;refine CR λA w3 ag a6 hA=>?_;replace hA:Blk w3 A (Bf.map Aq) 9:=hA;have ah:C<A:=by have:=hC.lt;omega
 replace hC:=hC.ext a6;replace hB:=hB.ext a6;replace hx:=hx.trans a6;have ai:=hx.size;refine Sa ?_;refine CW.loop (ι:=Nat) (λk w'=>k≤15∧Ah w3 w'∧∀j,j<k→Lib.hasPrefix (s.drop a) (Bf.getD j [])=false) (λk=>[(0,.pointer (some ⟨b,0,none⟩)),(2,.pointer (some ⟨C,0,none⟩)),(24,.slice (some ⟨A,0,none⟩) 15 15),(25,.int .i64 15),(26,.int .i64 k)]) (λk=>15 - k) 0 ⟨by omega,Chg.refl _ _,by omega⟩ CT ?_;rintro k w5 ⟨hk,a1,a2⟩;replace hA:=hA.ext a1;replace hC:=hC.ext a1;replace hB:=hB.ext a1;replace hx:=hx.trans a1;refine Sa ?_;refine Av (λh1=>?_) λh1=>?_
 ·have h1:k<15:=by simp at h1;omega
  refine Sa ?_;refine LW.idx_slice (j:=k) rfl rfl rfl rfl rfl Aeb Aee Afe rfl ?_;refine Sa ?_;refine LW.load rfl hA (YM k h1) rfl rfl rfl ?_;refine Sa ?_;refine Ig ?_;refine Sq ?_;refine QL.slice_str (i:=a) (j:=s.length) rfl rfl rfl ⟨_,_,rfl,rfl⟩ rfl Aeb Aeb rfl ?_;refine Sq ?_;refine QL.call0 rfl rfl (λw' _=>J0 _ _ w') ?_;refine Sq ?_;refine QL.nil λw6 a4=>?_;rw[EZ];replace hC:=hC.ext a4;replace hB:=hB.ext a4;replace hx:=hx.trans a4;replace a1:=a1.trans a4;refine Sa ?_;refine Av (λh2=>?_) λh2=>?_
  ·have h2:Lib.hasPrefix (s.drop a) (Bf.getD k [])=true:=h2;have hp:=L8 h2;refine Sa ?_;refine Cu λw7 aa hB=>?_;replace hC:=hC.chg aa Aee;have a0:Chg [b] w w7:=(Chg.trans hx aa).mono Aej;refine Sa ?_;refine AF λw8 a3 hC=>?_;replace hC:Blk w8 C (Bj ⟨5,Bf.getD k [],0,A4,0⟩) 203:=hC;replace hB:Blk w8 b [Aq s,.int .i64 ((a+(Bf.getD k []).length:Nat):Int)] 255:=hB.chg a3 Aee;replace a0:=a0.fresh a3 Aee;refine Sa ?_;refine QW.body_ct rfl rfl hC rfl rfl rfl rfl ⟨_,_,_,rfl,a0,hB,by omega,by omega,?_⟩;simp only[Fk,hd,Nh (λx=>Lib.hasPrefix (s.drop a) x) [] Bf k h1 a2 h2];simp
  ·have h2:Lib.hasPrefix (s.drop a) (Bf.getD k [])=false:=h2;refine Sa ?_;refine QW.again (k+1) ⟨by omega,a1,?_⟩ CT Aeb;intro j hj;by_cases ac:j=k
   ·subst ac;exact h2
   ·exact a2 j Aeb
 ·have h1:k=15:=by simp at h1;omega
  subst h1;refine Sa ?_;refine AF λw8 a3 hC=>?_;replace hC:Blk w8 C (Bj ⟨0,[],0,A4,0⟩) 203:=hC;replace hB:=hB.chg a3 Aee;have a0:Chg [b] w w8:=(hx.mono (S':=[b]) Aej).fresh a3 Aee;refine Sa ?_;refine QW.body_ct rfl rfl hC rfl rfl rfl rfl ⟨_,_,a,rfl,a0,hB,by omega,by omega,?_⟩;simp only[Fk,hd,OR (λx=>Lib.hasPrefix (s.drop a) x) [] Bf a2];simp
theorem Ff{w:World}{lo:Nat}{e:TypeId}{v:Value}{out:List UInt8}{z:Int}(h0:0≤z)(h1:z≤255)(h:Own w lo e 1 v (out.length+1) (AH out++[.int .u8 z])):Own w lo e 1 v (out++[ch z]).length (AH (out++[ch z])):=by
 have e1:AH (out++[ch z])=AH out++[.int .u8 z]:=by simp[AH,FV h0 h1]
 rw[e1]
 simpa using h
theorem Xa(s:List UInt8)(hs:s.length≤1000)(a:Nat)(ha:a<s.length)(b:Nat)(w:World)(hB:Blk w b [Aq s,.int .i64 a] 255) :
  A9 prog 231 [.pointer (some ⟨b,0,none⟩)] w (Xt s a b w (E3 (s.drop a))):=by
 have af:=hB.lt;refine AG func231 ntmps231 ?_;refine Sa ?_;refine B1 λC w1 ag hx hC=>?_;have ah:b<C:=Aeb
 replace hB:=hB.ext hx;have ab:C<w1.heap.size:=hC.lt;have ai:=hx.size;refine Sa ?_;refine CW.loop (ι:=Nat×List UInt8×Value) (λk w'=>k.1≤s.length∧k.2.1.length≤k.1∧Ah w1 w'∧Own w' w1.heap.size 5 1 k.2.2 k.2.1.length (AH k.2.1)∧EE s (a+1) k.1 k.2.1) (λk=>[(0,.pointer (some ⟨b,0,none⟩)),(2,.pointer (some ⟨C,0,none⟩)),(4,k.2.2),(5,.int .i64 k.1)]) (λk=>s.length - k.1) (a+1,[],.slice none 0 0) ⟨by simp;omega,by simp,Chg.refl _ _,Own.nil _ _ _ _,EE.start _ _⟩ Bl ?_;rintro⟨i,out,v⟩ w2 ⟨hi,ho,a1,a0,a5⟩;simp only at hi ho a0 a5;show CW _ _ _ _ _ [(0,.pointer (some ⟨b,0,none⟩)),(2,.pointer (some ⟨C,0,none⟩)),(4,v),(5,.int .i64 i)] _;have aj:=a5.1;have ak:C∉Ae v:=a0.old ab;have a9:b∉Ae v:=a0.old Aeb;replace hC:=hC.ext a1;replace hB:=hB.ext a1;have al:=a1.size;refine Sa ?_;refine Av (λh1=>?_) λh1=>?_
 ·have h1:i<s.length:=by simp at h1;omega
  refine Sa ?_;have aa:=CQ s i;refine B8 (λh2=>?_) λh2=>?_
  ·have h2:Ab s i=34:=by simpa using h2
   refine Sa ?_;refine B8 (λh3=>?_) λh3=>?_
   ·have h3:i+1<s.length:=by simp at h3;omega
    refine Sa ?_;refine Av (λh4=>?_) λh4=>?_
    ·have h4:Ab s (i+1)=34:=by simpa using h4
     refine Sa ?_;refine Sa ?_;refine CR λA w3 ac a7 hA=>?_;replace a0:=a0.ext a7;replace a1:=a1.trans a7;have ad:=a1.size;refine Sa ?_;refine LW.append rfl rfl rfl rfl rfl rfl a0 Aeb hA rfl rfl rfl Aet rfl ?_;intro v' w4 a8 a2 ae;replace a1:=a1.step a8 (λk hk=>(a0.lt hk).1);refine Sa ?_;refine QW.again (i+2,out++[ch (Ab s i)],v') ⟨by show i+2≤_;omega,by show(out++_).length≤i+2;simp;omega,a1,Ff aa.1 Aeb a2,EE.go a5 Aeb ?_⟩ Bl (by show s.length - (i+2)<s.length - i;omega);rw[SQ h3 h2 h4,show i+2 - i=2 by omega,h2];rfl
    ·have h4:i+1<s.length→Ab s (i+1)≠34:=λ_=>by simpa using h4
     refine Sa ?_;refine CW.yes rfl Ae7 ?_;refine Sa ?_;refine Cu λw5 a6 hB=>?_;replace hB:Blk w5 b [Aq s,.int .i64 ((i+1:Nat):Int)] 255:=hB;replace hC:=hC.chg a6 Aee;have a3:Chg [b] w w5:=(Chg.trans (hx.trans a1) a6).mono Aej;replace a0:=a0.chg a6 (λj hj hb=>a9 AeL);refine Sa ?_;refine LW.string_own rfl a0 rfl rfl rfl rfl rfl rfl rfl ?_;refine Sa ?_;refine AF λw8 a4 hC=>?_;replace hC:Blk w8 C (Bj ⟨2,out,0,A4,0⟩) 203:=hC;replace hB:=hB.chg a4 Aee;replace a3:=a3.fresh a4 Aee;refine Sa ?_;refine QW.body_ct rfl rfl hC rfl rfl rfl rfl ⟨_,_,_,rfl,a3,hB,by omega,by omega,?_⟩;have e:=a5.2;rw[HI h1 h2 h4] at e;simp only[E3,Ace];rw[e];simp;omega
   ·have h3:¬i+1<s.length:=by simp at h3;omega
    have h4:i+1<s.length→Ab s (i+1)≠34:=λh=>absurd h h3;refine Sa ?_;refine CW.yes rfl Ae7 ?_;refine Sa ?_;refine Cu λw5 a6 hB=>?_;replace hB:Blk w5 b [Aq s,.int .i64 ((i+1:Nat):Int)] 255:=hB;replace hC:=hC.chg a6 Aee;have a3:Chg [b] w w5:=(Chg.trans (hx.trans a1) a6).mono Aej;replace a0:=a0.chg a6 (λj hj hb=>a9 AeL);refine Sa ?_;refine LW.string_own rfl a0 rfl rfl rfl rfl rfl rfl rfl ?_;refine Sa ?_;refine AF λw8 a4 hC=>?_;replace hC:Blk w8 C (Bj ⟨2,out,0,A4,0⟩) 203:=hC;replace hB:=hB.chg a4 Aee;replace a3:=a3.fresh a4 Aee;refine Sa ?_;refine QW.body_ct rfl rfl hC rfl rfl rfl rfl ⟨_,_,_,rfl,a3,hB,by omega,by omega,?_⟩;have e:=a5.2;rw[HI h1 h2 h4] at e;simp only[E3,Ace];rw[e];simp;omega
  ·have h2:Ab s i≠34:=by simpa using h2
   refine Sa ?_;refine CW.no rfl Ae7 ?_;refine Sa ?_;refine Av (λh5=>?_) λh5=>?_
   ·have h5:Ab s i<32:=by simpa using h5
    refine Sa ?_;refine AF λw8 a4 hC=>?_;replace hC:Blk w8 C (Bj ⟨0,[],0,A4,0⟩) 203:=hC;replace hB:=hB.chg a4 Aee;have a3:Chg [b] w w8:=((hx.trans a1).mono (S':=[b]) Aej).fresh a4 Aee;refine Sa ?_;refine QW.body_ct rfl rfl hC rfl rfl rfl rfl ⟨_,_,a,rfl,a3,hB,by omega,by omega,?_⟩;have e:=a5.2;rw[SP (i:=i) Aeb h5] at e;simp only[E3,Ace];rw[e];simp
   ·have h5:¬Ab s i<32:=by simpa using h5
    refine Sa ?_;refine Sa ?_;refine CR λA w3 ac a7 hA=>?_;replace a0:=a0.ext a7;replace a1:=a1.trans a7;have ad:=a1.size;refine Sa ?_;refine LW.append rfl rfl rfl rfl rfl rfl a0 Aeb hA rfl rfl rfl Aet rfl ?_;intro v' w4 a8 a2 ae;replace a1:=a1.step a8 (λk hk=>(a0.lt hk).1);refine Sa ?_;refine QW.again (i+1,out++[ch (Ab s i)],v') ⟨by show i+1≤_;omega,by show(out++_).length≤i+1;simp;omega,a1,Ff aa.1 Aeb a2,EE.go a5 Aeb ?_⟩ Bl AeG;rw[Vk h1 h2 h5,show i+1 - i=1 by omega]
 ·have h1:i=s.length:=by simp at h1;omega
  refine Sa ?_;refine AF λw8 a4 hC=>?_;replace hC:Blk w8 C (Bj ⟨0,[],0,A4,0⟩) 203:=hC;replace hB:=hB.chg a4 Aee;have a3:Chg [b] w w8:=((hx.trans a1).mono (S':=[b]) Aej).fresh a4 Aee;refine Sa ?_;refine QW.body_ct rfl rfl hC rfl rfl rfl rfl ⟨_,_,a,rfl,a3,hB,by omega,by omega,?_⟩;have e:=a5.2;rw[SN (i:=i) Aeb] at e;simp only[E3,Ace];rw[e];simp
def byF(c:Int):Nat:=if Ar c then 230 else if c=34 then 231 else if GC c then 233 else 234
theorem Aal(c:Int)(w:World):A9 prog 195 [.int .u8 c] w (λv w'=>v=.func (.func (byF c)) #[] #[]∧Ah w w'):=by
 refine AG func195 ntmps195 ?_;refine Sa ?_;refine Ap rfl rfl (H4 _ _) ?_;rintro v w1 ⟨rfl,hx⟩;refine Sa ?_;refine Av (λh1=>?_) λh1=>?_
 ·refine Sa ?_;refine QW.body1 rfl rfl ⟨?_,hx⟩;simp[byF,h1]
 ·refine Sa ?_;refine Av (λh2=>?_) λh2=>?_
  ·have h2:c=34:=by simpa using h2
   refine Sa ?_;refine QW.body1 rfl rfl ⟨?_,hx⟩;rw[byF,h1,if_neg Aej,if_pos h2]
  ·have h2:c≠34:=by simpa using h2
   refine Sa ?_;refine Ap rfl rfl (MU _ _) ?_;rintro v w2 ⟨rfl,a0⟩;replace hx:=hx.trans a0;refine Sa ?_;refine Av (λh3=>?_) λh3=>?_
   all_goals
    refine Sa ?_;refine QW.body1 rfl rfl ⟨?_,hx⟩;simp[byF,h1,h2,h3]
theorem Z2(s:List UInt8)(hs:s.length≤1000)(a:Nat)(ha:a<s.length)(b:Nat)(w0 w:World)(g:Dq w0)(h0:Ah w0 w)(hb0:w0.heap.size≤b)(hB:Blk w b [Aq s,.int .i64 a] 255) :
  A9 prog (byF (Ab s a)) [.pointer (some ⟨b,0,none⟩)] w (Xt s a b w (Ct (s.drop a))):=by
 have e:Ab (s.drop a) 0=Ab s a:=by rw[Dz];rfl
 unfold byF Ct;rw[e];cases h1:Ar (Ab s a)
 ·by_cases h2:Ab s a=34
  ·simp only[AbK,if_false,h2,if_true];exact Xa s hs a ha b w hB
  ·cases h3:GC (Ab s a)
   ·simp only[AbK,if_false,h2];exact WN s hs a ha b w hB
   ·simp only[AbK,if_false,h2,if_true];exact YV s hs a ha b w0 w g h0 hb0 hB
 ·simp only[if_true];exact Ul s hs a ha h1 b w0 w g h0 hb0 hB
def Tv(s:List UInt8)(v:Value)(w:World)(lo:Nat):Prop:=
 if 300<s.length then v=.tuple #[.slice none 0 0,.int .i64 4]
 else match Ic s with
  | none=>v=.tuple #[.slice none 0 0,.int .i64 5]
  | some l=>∃sv,v=.tuple #[sv,.int .i64 0]∧Own w lo 203 9 sv l.length (l.flatMap Bj)
theorem MB{w:World}{lo:Nat}{e:TypeId}{v:Value}{out:List As}{t:As}(h:Own w lo e 9 v (out.length+1) (out.flatMap Bj++Bj t)):Own w lo e 9 v (out++[t]).length ((out++[t]).flatMap Bj):=by
 simpa using h
theorem Zb(s:List UInt8)(hs:s.length≤9223372036854775807)(w:World)(g:Dq w):A9 prog 150 [Aq s] w (λv w'=>Tv s v w' w.heap.size∧Ah w w'):=by
 refine AG func150 ntmps150 ?_;refine Sa ?_;refine Av (λh1=>?_) λh1=>?_
 ·have h1:300<s.length:=by simp at h1;omega
  refine Sa ?_;refine QW.body2 rfl rfl rfl ⟨?_,Chg.refl _ _⟩;rw[Tv,if_pos h1]
 have h1:¬300<s.length:=by simp at h1;omega
 refine Sa ?_;refine C0 λb w1 az hx hB=>?_;replace hB:Blk w1 b [Aq s,.int .i64 ((0:Nat):Int)] 255:=hB;have al:b<w1.heap.size:=hB.lt;refine Sa ?_;refine CW.loop (ι:=Nat×List As×Value) (λk w'=>k.1≤s.length∧k.2.1.length≤k.1∧Ah w w'∧w1.heap.size≤w'.heap.size∧Blk w' b [Aq s,.int .i64 k.1] 255∧Own w' w1.heap.size 203 9 k.2.2 k.2.1.length (k.2.1.flatMap Bj)∧Ej s k.1 k.2.1) (λk=>[(0,Aq s),(4,.pointer (some ⟨b,0,none⟩)),(5,k.2.2)]) (λk=>s.length - k.1) (0,[],.slice none 0 0) ⟨by simp,by simp,hx,Ab2 _,hB,Own.nil _ _ _ _,Ej.start _⟩ Bp ?_;rintro⟨a,out,v⟩ w2 ⟨ha,ho,am,b0,ai,a1,aa⟩;clear hB;simp only at ha ho ai a1 aa;show CW _ _ _ _ _ [(0,Aq s),(4,.pointer (some ⟨b,0,none⟩)),(5,v)] _;have af:b∉Ae v:=a1.old al;refine Sa ?_;refine Ap rfl rfl (JI FD _ WR s Aeb a Aeb b w2 ai) ?_;rintro u w3 ⟨rfl,ag,aj⟩;have ah:=am.step ag Aee;have b1:=ag.size;have a3:=a1.chg ag (λj hj hb=>af AeL);generalize hc:a+(Ak FD (s.drop a)).length=c at aj;have b2:c≤s.length:=by
  have:=E0 FD (s.drop a);simp at this;omega
 refine Sa ?_;refine Av (λh2=>?_) λh2=>?_
 ·have h2:c=s.length:=by simp at h2;omega
  refine Sa ?_;refine CR λA w4 an a2 hA=>?_;replace hA:Blk w4 A (Bj ⟨0,[],0,A4,(s.length:Int)⟩) 203:=by rw[←h2];exact hA
  have ao:=a2.size;refine Sa ?_;refine LW.append rfl rfl rfl rfl rfl rfl (a3.ext a2) Aeb hA rfl rfl rfl AeD rfl ?_;intro v' w5 a6 a0 _;refine Sa ?_;refine QW.body2 rfl rfl rfl ⟨?_,(ah.trans a2).step a6 (λk hk=>?_)⟩
  ·rw[Tv,if_neg h1,aa.end Aeb];refine⟨_,rfl,?_⟩;obtain⟨hl,hh⟩:=MB a0;refine⟨hl,?_⟩;rcases hh with hh | ⟨gg,cap,sp,e1,e2,e3,e4,e5⟩
   ·exact .inl hh
   ·exact .inr ⟨gg,cap,sp,e1,e2,e3,e4,by have:=hx.size;omega⟩
  ·have:=(a1.lt hk).1;have:=hx.size;omega
 have h2:c<s.length:=by simp at h2;omega
 refine Sa ?_;refine Ap rfl rfl (Aal _ _) ?_;rintro u w4 ⟨rfl,a2⟩;have ao:=a2.size;refine Sa ?_;refine LW.call (fs:=[]) (cs:=[]) rfl rfl rfl (Z2 s Aeb c h2 b w w4 g (ah.trans a2) Aeb (aj.ext a2)) ?_;rintro u w5 ⟨t,ok,a',rfl,a6,ap,aq,b3,a7⟩;have ar:=(ah.trans a2).step a6 Aee;have b4:=a6.size;have a0:=(a3.ext a2).chg a6 (λj hj hb=>af AeL);refine Sa ?_;refine B1 λC w6 b5 ab hC=>?_;have b6:=ab.size;refine Sa ?_;refine AF λw7 ac hC=>?_;replace hC:Blk w7 C (Bj t) 203:=hC;have ak:=(ar.trans ab).step ac Aee;have b7:=ac.size;have au:=(ap.ext ab).chg ac Aee;have a8:=(a0.ext ab).chg ac (λj hj hb=>by
  simp at hb;have:=(a0.lt hj).2;omega)
 refine Sa ?_
 cases ok with
 | false=>
  refine Sa ?_;refine QW.body2 rfl rfl rfl ⟨?_,ak⟩
  rw[Tv,if_neg h1,aa.bad hc h2 AeM]
 | true=>
  have a7:Ct (s.drop c)=some (t,a' - c):=by simpa using a7
  have av:=Fe AeE a7;refine Sa ?_;refine Cu λw8 ad hC=>?_;replace hC:Blk w8 C (Bj {t with at_:=(c:Int)}) 203:=hC;have aw:=ak.step ad Aee;have b8:=ad.size;have ax:=au.chg ad Aee;have a9:=a8.chg ad (λj hj hb=>by
   simp at hb;have:=(a0.lt hj).2;omega)
  refine Sa ?_;refine CR λA w9 an ae hA=>?_;replace hA:Blk w9 A (Bj {t with at_:=(c:Int)}) 203:=hA;have b9:=ae.size;refine Sa ?_;refine LW.append rfl rfl rfl rfl rfl rfl (a9.ext ae) Aeb hA rfl rfl rfl AeD rfl ?_;intro v' ba a4 a5 _;have ay:=a4.size;refine Sa ?_;refine QW.again (a',out++[{t with at_:=(c:Int)}],v') ⟨aq,by simp;omega,?_,by omega,?_,MB a5,?_⟩ Bp (by show s.length - a'<s.length - a;omega)
  ·refine(aw.trans ae).step a4 (λk hk=>?_);have:=(a1.lt hk).1;omega
  ·exact(ax.ext ae).chg a4 af
  ·have:=aa.go hc h2 a7
   rwa [show c+(a' - c)=a' by omega] at this
end Go.Proofs.YtcjjcnecopnpcaaGreatDoor
