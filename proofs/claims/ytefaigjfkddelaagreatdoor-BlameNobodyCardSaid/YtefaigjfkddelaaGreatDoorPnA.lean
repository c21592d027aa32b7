/-
  Joined by program out of the texts Dg Addr Ref LexL.
-/
import Derived.Test.YtefaigjfkddelaaGreatDoorTab
import Derived.Test.YtefaigjfkddelaaGreatDoorPnE
import Derived.Test.YtefaigjfkddelaaGreatDoorShelf
import Derived.ChangeAgain
import Derived.Lib.ItoaNum
import Derived.Lib.Strings
import Derived.Lib.IndexMore
import Derived.Lib.AtoiAll
import Derived.Lib.ItoaLen
import Derived.Lib.AtoiAllCases
namespace Go.Proofs.YtefaigjfkddelaaGreatDoor
open Tryz
open Go Go.E Go.RowKit
structure Dg(w:World):Prop where
 shaped:w.ShapedOpen prog
 pow : Lib.TabIs prog w "internal/strconv.uint64pow10" .u64 Lib.pow10Tab
 syn:∃t v,w.cell? ⟨0,0,none⟩=some (.iface t v)
 rng:∃t v,w.cell? ⟨1,0,none⟩=some (.iface t v)
theorem Aw{w w':World}(h:Ae w w'){a:Addr}{v:Value}(hc:w.cell? a=some v):w'.cell? a=some v:=by
 have a0:=AcR w a hc;rw[(Ae.toBelow h).cell a0];exact hc
theorem Aar{w w':World}(h:Ae w w'){n:String}{cs:Array Value}(hv:w.var? prog n=some cs):w'.var? prog n=some cs:=by
 unfold World.var? at hv ⊢
 cases hg:prog.globalNamed n with
 | none=>simp[hg] at hv
 | some g=>
  simp only[hg,AcJ] at hv ⊢;have a0:g<w.heap.size:=by
   rcases Ac0 g w.heap.size with hl | hl
   ·exact hl
   ·rw[Array.getElem?_eq_none hl] at hv;cases hv
  rw[(Ae.toBelow h).block g a0];exact hv
theorem Dg.ext{w w':World}(g:Dg w)(h:Ae w w'):Dg w':=
 ⟨World.ShapedOpen.keptBut g.shaped ((Ae.toBelow h).frame (λ_=>False)) (λ_ hf=>hf.elim),Aar h g.pow,
  g.syn.elim λt ht=>ht.elim λv hv=>⟨t,v,Aw h hv⟩,g.rng.elim λt ht=>ht.elim λv hv=>⟨t,v,Aw h hv⟩⟩
theorem Ae.drewN(w:World)(k:Nat):Ae w (w.drewN k):=⟨rfl,rfl,rfl,Ab9 _,λ_ _ _=>rfl⟩
theorem Ae.grow(w:World)(os:Array Obj):Ae w (Go.Sort.grow w os):=
 ⟨rfl,rfl,rfl,by simp[Go.Sort.grow],λk hk _=>by simp[Go.Sort.grow,Aec hk]⟩
theorem Ae.bytesWorld(w:World)(e:TypeId)(s:ByteArray):Ae w (Lib.bytesWorld w e s):=by
 refine⟨?_,?_,?_,?_,λk hk _=>?_⟩
 ·unfold Lib.bytesWorld World.freeze;split<;>rfl
 ·unfold Lib.bytesWorld World.freeze;split<;>rfl
 ·unfold Lib.bytesWorld World.freeze;split<;>rfl
 ·unfold Lib.bytesWorld World.freeze;simp
 ·unfold Lib.bytesWorld World.freeze;rw[if_neg Aez];show(Array.modify _ _ _)[k]?=_;rw[AdQ,if_neg Ae0];exact Below.heap_alloc _ _ _ hk
theorem Gk{f:FuncId}{args:List Value}{w:World}{R:Ending→World→Prop}{Φ:Value→World→Prop}(hc:CF prog f=true)(h:Calls prog f ⟨args⟩ w R)(hm:∀e w',R e w'→GK Φ e w'):AF prog f args w Φ:=⟨hc,h.mono hm⟩
theorem MZ(n:Int)(h0:-9223372036854775808≤n)(h1:n≤9223372036854775807)(w:World)(g:Dg w):AF prog 88 [.int .i64 n] w (λv w'=>v=Am (Lib.itoa n)∧Ae w w'):=
 Gk Ae1 (strconv_Itoa n h0 h1 w g.pow) λe w' ⟨he,k,os,hw⟩=>⟨_,he,rfl,by subst hw;exact(Ae.drewN w k).trans (Ae.grow _ _)⟩
def Jv(l:List UInt8)(v:Value):Prop:=match Lib.atoiAll l with
 | .ok n=>v=.tuple #[.int .i64 n,.nilIface]
 | _=>∃z t x,v=.tuple #[.int .i64 z,.iface t x]
theorem Im(l:List UInt8)(hl:l.length≤1000000)(w:World)(g:Dg w):AF prog 128 [Am l] w (λv w'=>Jv l v∧Ae w w'):=by
 have hs:(⟨⟨l⟩⟩:ByteArray).size=l.length:=rfl
 cases h:Lib.atoiAll l with
 | ok n=>
  refine Gk Ae1 (strconv_Atoi_ok ⟨⟨l⟩⟩ (by rw[hs];omega) n h w) λe w' ⟨he,hw⟩=>⟨_,he,by unfold Jv;rw[h],?_⟩;rcases hw with rfl | ⟨t,rfl⟩
  ·exact Chg.refl _ _
  ·exact Ae.bytesWorld ..
 | range=>
  obtain⟨t,v,hv⟩:=g.rng
  exact Gk Ae1 (strconv_Atoi_range ⟨⟨l⟩⟩ (by rw[hs];omega) h _ w hv (Or.inr ⟨t,v,rfl⟩)) λe w' ⟨N,he,_,_,hb⟩=>⟨_,he,by unfold Jv;rw[h];exact⟨_,_,_,rfl⟩,Ae.of_below hb⟩
 | _=>
  obtain⟨t,v,hv⟩:=g.syn;exact Gk Ae1 (Any.strconv_Atoi_syntax laysAtoi ⟨⟨l⟩⟩ (by rw[hs];omega) h _ w hv (Or.inr ⟨t,v,rfl⟩)) λe w' ⟨N,he,_,_,hb⟩=>⟨_,he,by unfold Jv;rw[h];exact⟨_,_,_,rfl⟩,Ae.of_below hb⟩
theorem OL(s p:List UInt8)(w:World):AF prog 249 [Am s,Am p] w (λv w'=>v=.tuple #[Am (Lib.trimPrefix s p),.bool (Lib.hasPrefix s p)]∧Ae w w'):=
 Gk Ae1 (strings_CutPrefix ⟨⟨s⟩⟩ ⟨⟨p⟩⟩ w) λe w' ⟨he,hw⟩=>⟨_,he,rfl,by subst hw;exact Chg.refl _ _⟩
theorem Jz(s p:List UInt8)(w:World):AF prog 222 [Am s,Am p] w (λv w'=>v=.bool (Lib.hasPrefix s p)∧Ae w w'):=
 Gk Ae1 (strings_HasPrefix ⟨⟨s⟩⟩ ⟨⟨p⟩⟩ w) λe w' ⟨he,hw⟩=>⟨_,he,rfl,by subst hw;exact Chg.refl _ _⟩
theorem Nb(s o n:List UInt8)(hs:s.length≤1000000)(ho:1≤o.length)(hn:n.length≤1000)(w:World)(g:Dg w):AF prog 184 [Am s,Am o,Am n] w (λv w'=>v=Am (Lib.replaceAll s o n)∧Ae w w'):=by
 obtain⟨m,hm⟩:=(laysM143).s1_3 w g.shaped;have hc:Lib.countB ⟨⟨s⟩⟩ ⟨⟨o⟩⟩≤s.length+1:=Lib.count_le s o;have hz:Lib.countB ⟨⟨s⟩⟩ ⟨⟨o⟩⟩*n.length≤1000001*1000:=Aed Aez hn;exact Gk Ae1 (strings_ReplaceAll ⟨⟨s⟩⟩ ⟨⟨o⟩⟩ ⟨⟨n⟩⟩ m w (show s.length<_ by omega) hm ho (show s.length+_*n.length≤_ by omega)) λe w' ⟨he,hw⟩=>⟨_,he,rfl,Ae.of_below hw⟩
theorem Zt(s p:List UInt8)(hs:s.length≤1000000)(w:World)(g:Dg w):AF prog 232 [Am s,Am p] w (λv w'=>v=.tuple #[Am (Lib.cut s p).1,Am (Lib.cut s p).2.1,.bool (Lib.cut s p).2.2]∧Ae w w'):=
 Gk Ae1 (strings_Cut_shaped ⟨⟨s⟩⟩ ⟨⟨p⟩⟩ w g.shaped (show s.length<_ by omega)) λe w' ⟨he,k,hw⟩=>⟨_,he,rfl,by subst hw;exact Ae.drewN w k⟩
open Go Go.E
def Bb(c:Int):Bool:=decide (65≤c)&&decide (c≤90)
def Aq(c:Int):Bool:=decide (48≤c)&&decide (c≤57)
def F4(c:Int):Bool:=Bb c||(decide (97≤c)&&decide (c≤122))
def T8(c:Int):Bool:=F4 c||Aq c
def D7(l:List UInt8):Bool:=decide (l≠[])&&decide (l.length≤12)&&F4 (Ab l 0)&&decide (∀j,j<l.length→T8 (Ab l j)=true)
theorem NY{l:List UInt8}(h:12<l.length):D7 l=false:=by simp[D7];intros;omega
theorem Mp{l:List UInt8}(h:F4 (Ab l 0)=false):D7 l=false:=by simp[D7,h]
theorem Sm{l:List UInt8}{k:Nat}(hk:k<l.length)(h:T8 (Ab l k)=false):D7 l=false:=by
 simp only[D7,AdR,decide_eq_false_iff_not];exact Or.inr λhh=>by rw[hh k hk] at h;cases h
theorem NZ{l:List UInt8}(h0:l≠[])(h1:l.length≤12)(h2:F4 (Ab l 0)=true)(h3:∀j,j<l.length→T8 (Ab l j)=true):D7 l=true:=by
 simp[D7,h0,h1,h2];exact h3
def E2(n:Int):List UInt8:=
 if n<0∨701<n then[] else if n<26 then[ch (65+n)] else[ch (65+n / 26 - 1),ch (65+n % 26)]
def AX(l:List UInt8):Option Int:=
 match l with
 | [_]=>if Bb (Ab l 0) then some (Ab l 0 - 65) else none
 | [_,_]=>if Bb (Ab l 0)&&Bb (Ab l 1) then some ((Ab l 0 - 65+1)*26+(Ab l 1 - 65)) else none
 | _=>none
def CH(l:List UInt8):Value:=match AX l with
 | some n=>.tuple #[.int .i64 n,.bool true]
 | none=>.tuple #[.int .i64 0,.bool false]
structure C3 where
 sheet:List UInt8
 col:Int
 row:Int
 ac:Bool
 ar:Bool
deriving DecidableEq
def AZ(x:C3):List Value:=[Am x.sheet,.int .i64 x.col,.int .i64 x.row,.bool x.ac,.bool x.ar]
def JU(x:C3):Value:=.agg ⟨[Am x.sheet,.int .i64 x.col,.int .i64 x.row,.bool x.ac,.bool x.ar]⟩
def AY(x:C3):Bool:=(decide (x.sheet=[])||D7 x.sheet)&&decide (0≤x.col)&&decide (x.col≤701)&&decide (0≤x.row)&&decide (x.row≤998)
def D5(b:Bool):List UInt8:=if b then[36] else[]
def BN(x:C3):List UInt8:=(if x.sheet=[] then[] else x.sheet++[33])++(D5 x.ac++E2 x.col++D5 x.ar++Lib.itoa (x.row+1))
def Ct(x:C3):List UInt8:=if AY x then BN x else[]
def Aj(p:Int→Bool)(s:List UInt8):List UInt8:=s.takeWhile λc=>p c.toNat
def Ic(p:Int→Bool)(s:List UInt8):List UInt8:=s.dropWhile λc=>p c.toNat
theorem KT(p:Int→Bool):∀(s:List UInt8) (k:Nat),k≤s.length→(∀j,j<k→p (Ab s j)=true)→(k=s.length∨p (Ab s k)=false)→s.take k=Aj p s∧s.drop k=Ic p s
 | [],k,hk,_,_=>by simp[Aj,Ic]
 | c::s,0,_,_,h=>by
  rcases h with h | h
  ·simp at h
  ·have hc:p (c.toNat:Int)=false:=h
   simp[Aj,Ic,hc]
 | c::s,k+1,hk,hall,h=>by
  have hc:p (c.toNat:Int)=true:=hall 0 Aez;have ih:=KT p s k (by simpa using hk) (λj hj=>hall (j+1) Aez) (by
   rcases h with h | h
   ·exact Or.inl Afa
   ·exact Or.inr h)
  simp[Aj,Ic,hc] at ih ⊢;exact ih
theorem Nx(s:List UInt8)(k:Nat):cut s 0 k=s.take k:=by simp[cut]
theorem E3(s:List UInt8)(k:Nat):cut s k s.length=s.drop k:=by
 unfold cut;exact AcC Ae7
def CU(s:List UInt8):List UInt8:=if (Lib.cut s [33]).2.2 then(Lib.cut s [33]).1 else[]
def CG(s:List UInt8):List UInt8:=if (Lib.cut s [33]).2.2 then(Lib.cut s [33]).2.1 else s
def Cl(s:List UInt8):List UInt8:=Lib.trimPrefix (CG s) [36]
def Ds(s:List UInt8):List UInt8:=Ic Bb (Cl s)
def Cy(s:List UInt8):List UInt8:=Lib.trimPrefix (Ds s) [36]
theorem KS(p:Int→Bool)(s:List UInt8):(Aj p s).length≤s.length:=by
 unfold Aj;exact(List.takeWhile_sublist _).length_le
theorem QA(p:Int→Bool)(s:List UInt8):(Ic p s).length≤s.length:=by
 unfold Ic;exact(List.dropWhile_sublist _).length_le
theorem GH(s p:List UInt8):(Lib.trimPrefix s p).length≤s.length:=by
 unfold Lib.trimPrefix;split<;>simp
theorem Rv(s p:List UInt8):(Lib.cut s p).1.length≤s.length:=by
 unfold Lib.cut;split<;>simp;omega
theorem XT(s p:List UInt8):(Lib.cut s p).2.1.length≤s.length:=by
 unfold Lib.cut;split<;>simp
theorem Iv(n:Int):(E2 n).length≤2:=by
 unfold E2;split
 ·simp
 ·split<;>simp
theorem FD(b:Bool):(D5 b).length≤1:=by cases b<;>simp[D5]
theorem Fh(c:Int)(w:World):AF prog 122 [.int .u8 c] w (λv w'=>v=.bool (Bb c)∧Ae w w'):=by
 refine AQ func122 ntmps122 ?_;refine Sa ?_;refine B6 (λh1=>?_) λh1=>?_
 all_goals
  refine Sa ?_;refine QW.body1 rfl rfl ⟨?_,Chg.refl _ _⟩;simp[Bb,h1]
theorem Pf(c:Int)(w:World):AF prog 85 [.int .u8 c] w (λv w'=>v=.bool (Aq c)∧Ae w w'):=by
 refine AQ func85 ntmps85 ?_;refine Sa ?_;refine B6 (λh1=>?_) λh1=>?_
 all_goals
  refine Sa ?_;refine QW.body1 rfl rfl ⟨?_,Chg.refl _ _⟩;simp[Aq,h1]
theorem NK(c:Int)(w:World):AF prog 84 [.int .u8 c] w (λv w'=>v=.bool (F4 c)∧Ae w w'):=by
 refine AQ func84 ntmps84 ?_;refine Sa ?_;refine Ax rfl rfl (Fh _ _) ?_;rintro v w' ⟨rfl,hx⟩;refine Sa ?_;refine B6 (λh1=>?_) λh1=>?_
 ·refine Sa ?_;refine QW.body1 rfl rfl ⟨?_,hx⟩;simp[F4,h1]
 ·refine Sa ?_;refine B6 (λh2=>?_) λh2=>?_
  all_goals
   refine Sa ?_;refine QW.body1 rfl rfl ⟨?_,hx⟩;simp[F4,h1,h2]
theorem QR(s:List UInt8)(w:World)(hs:s.length≤9223372036854775807):AF prog 60 [Am s] w (λv w'=>v=.bool (D7 s)∧Ae w w'):=by
 refine AQ func60 ntmps60 ?_;refine Sa ?_;refine B6 (λh0=>?_) λh0=>?_
 ·have h0:s=[]:=by simpa using h0
  subst h0;refine Sa ?_;refine QW.body1 rfl rfl ⟨rfl,Chg.refl _ _⟩
 have h0:s≠[]:=by simpa using h0
 have hp:0<s.length:=AbY.2 h0;refine Sa ?_;refine B6 (λh1=>?_) λh1=>?_
 ·have h1:12<s.length:=by simp at h1;omega
  refine Sa ?_;refine QW.body1 rfl rfl ⟨by rw[NY h1],Chg.refl _ _⟩
 have h1:s.length≤12:=by simp at h1;omega
 refine Sa ?_;refine Ax rfl rfl (NK _ _) ?_;rintro v w1 ⟨rfl,hx⟩;refine Sa ?_;refine Av (λh2=>?_) λh2=>?_
 ·refine Sa ?_;refine QW.body1 rfl rfl ⟨?_,hx⟩;rw[Mp]
  simpa using h2
 have h2:F4 (Ab s 0)=true:=by simpa using h2
 refine Sa ?_;refine CW.loop (ι:=Nat) (λk w'=>k≤s.length∧Ae w w'∧∀j,j<k→T8 (Ab s j)=true) (λk=>[(0,Am s),(18,.int .i64 s.length),(19,.int .i64 k)]) (λk=>s.length - k) 0 ⟨by omega,hx,by omega⟩ Bh ?_;rintro k w2 ⟨hk,a1,a0⟩;refine Sa ?_;refine Av (λh3=>?_) λh3=>?_
 ·have h3:k<s.length:=by simpa using h3
  refine Sa ?_;refine Ax rfl rfl (NK _ _) ?_;rintro v w3 ⟨rfl,a2⟩;refine Sa ?_;refine B6 (λh4=>?_) λh4=>?_
  ·refine Sa ?_;refine Ax rfl rfl (Pf _ _) ?_;rintro v w4 ⟨rfl,a4⟩;refine Sa ?_;refine Av (λh5=>?_) λh5=>?_
   ·refine Sa ?_;refine QW.body1 rfl rfl ⟨?_,(a1.trans a2).trans a4⟩;rw[Sm h3];simp at h4 h5;simp[T8,h4,h5]
   ·refine Sa ?_;refine QW.again (k+1) ⟨by omega,(a1.trans a2).trans a4,?_⟩ Bh Aez;intro j hj;by_cases a3:j=k
    ·subst a3;simp at h5;simp[T8,h5]
    ·exact a0 j Aez
  ·refine Sa ?_;refine QW.again (k+1) ⟨by omega,a1.trans a2,?_⟩ Bh Aez;intro j hj;by_cases a3:j=k
   ·subst a3;simp at h4;simp[T8,h4]
   ·exact a0 j Aez
 ·have h3:k=s.length:=by simp at h3;omega
  subst h3;refine Sa ?_;refine QW.body1 rfl rfl ⟨?_,a1⟩;rw[NZ h0 h1 h2 a0]
theorem Sc(b:Bool)(w:World):AF prog 218 [.bool b] w (λv w'=>v=Am (D5 b)∧Ae w w'):=by
 cases b
 all_goals
  refine AQ func218 ntmps218 ?_;refine Sa ?_;refine QW.body1 rfl rfl ⟨rfl,Chg.refl _ _⟩
theorem Zs(n:Int)(h0:-9223372036854775808≤n)(h1:n≤9223372036854775807)(w:World):AF prog 219 [.int .i64 n] w (λv w'=>v=Am (E2 n)∧Ae w w'):=by
 refine AQ func219 ntmps219 ?_;refine Sa ?_;refine B6 (λh2=>?_) λh2=>?_
 ·have h2:n<0:=by simpa using h2
  refine Sa ?_;refine QW.body1 rfl rfl ⟨?_,Chg.refl _ _⟩;rw[E2,if_pos Aez]
 have h2:0≤n:=by simpa using h2
 refine Sa ?_;refine Av (λh3=>?_) λh3=>?_
 ·have h3:701<n:=by simpa using h3
  refine Sa ?_;refine QW.body1 rfl rfl ⟨?_,Chg.refl _ _⟩;rw[E2,if_pos Aez]
 have h3:n≤701:=by simpa using h3
 refine Sa ?_;refine Av (λh4=>?_) λh4=>?_
 ·have h4:n<26:=by simpa using h4
  refine Sa ?_;refine QW.body1 rfl rfl ⟨?_,Chg.refl _ _⟩;rw[E2,if_neg Aez,if_pos h4];rfl
 ·have h4:26≤n:=by simpa using h4
  refine Sa ?_;refine QW.body1 rfl rfl ⟨?_,Chg.refl _ _⟩;rw[E2,if_neg Aez,if_neg Aez];rfl
theorem MD(x:C3)(hs:x.sheet.length≤9223372036854775807)(w:World):AF prog 181 [JU x] w (λv w'=>v=.bool (AY x)∧Ae w w'):=by
 obtain⟨sh,c,r,ac,ar⟩:=x;simp only[JU];refine AQ func181 ntmps181 ?_;refine Sa ?_;refine Dq λb w1 hb hx hB=>?_;refine Sa ?_;refine B6 (λh1=>?_) λh1=>?_
 ·refine Sa ?_;refine B6 (λh2=>?_) λh2=>?_
  ·refine Sa ?_;refine B6 (λh3=>?_) λh3=>?_
   ·refine Sa ?_;refine B6 (λh4=>?_) λh4=>?_
    ·refine Sa ?_;refine QW.body1 rfl rfl ⟨?_,hx⟩;simp[AY, *]
    ·refine Sa ?_;refine QW.body1 rfl rfl ⟨?_,hx⟩;simp[AY, *]
   ·refine Sa ?_;refine QW.body1 rfl rfl ⟨?_,hx⟩;simp[AY, *]
  ·refine Sa ?_;refine QW.body1 rfl rfl ⟨?_,hx⟩;simp[AY, *]
 ·refine Sa ?_;refine Ax rfl rfl (QR _ _ hs) ?_;rintro v w2 ⟨rfl,a0⟩;replace hB:=hB.ext a0;replace hx:=hx.trans a0;refine Sa ?_;refine B6 (λh0=>?_) λh0=>?_
  ·refine Sa ?_;refine B6 (λh2=>?_) λh2=>?_
   ·refine Sa ?_;refine B6 (λh3=>?_) λh3=>?_
    ·refine Sa ?_;refine B6 (λh4=>?_) λh4=>?_
     ·refine Sa ?_;refine QW.body1 rfl rfl ⟨?_,hx⟩;simp[AY, *]
     ·refine Sa ?_;refine QW.body1 rfl rfl ⟨?_,hx⟩;simp[AY, *]
    ·refine Sa ?_;refine QW.body1 rfl rfl ⟨?_,hx⟩;simp[AY, *]
   ·refine Sa ?_;refine QW.body1 rfl rfl ⟨?_,hx⟩;simp[AY, *]
  ·refine Sa ?_;refine QW.body1 rfl rfl ⟨?_,hx⟩;simp[AY, *]
theorem QU(s:List UInt8)(hs:s.length≤1000000)(w:World):AF prog 235 [Am s] w (λv w'=>v=CH s∧Ae w w'):=by
 match s,hs with
 | [],_=>
  refine AQ func235 ntmps235 ?_;refine Sa ?_
  refine QW.body2 rfl rfl rfl ⟨rfl,Chg.refl _ _⟩
 | a::b::c::l,hs=>
  simp at hs;refine AQ func235 ntmps235 ?_;refine Sa ?_;refine Av (λh=>?_) λh=>?_
  ·refine Sa ?_;refine QW.body2 rfl rfl rfl ⟨rfl,Chg.refl _ _⟩
  ·simp at h;omega
 | [a],_=>
  refine AQ func235 ntmps235 ?_;refine Sa ?_;refine CW.rounds 2 ?_;refine Sa ?_;refine Ax rfl rfl (Fh _ _) ?_;rintro v w1 ⟨rfl,hx⟩;refine Sa ?_;refine Av (λh1=>?_) λh1=>?_
  ·refine Sa ?_;refine QW.body2 rfl rfl rfl ⟨?_,hx⟩;have h1:Bb (Ab [a] 0)=false:=by simpa using h1
   simp[CH,AX,h1]
  have h1:Bb (Ab [a] 0)=true:=by simpa using h1
  have hb:=CQ [a] 0;have a1:65≤Ab [a] 0∧Ab [a] 0≤90:=by simpa[Bb] using h1
  have e0:Ab [a] (0:Int).toNat=Ab [a] 0:=rfl;refine Sa ?_;refine QW.body2 rfl rfl rfl ⟨?_,hx⟩
  simp[CH,AX,h1]
 | [a,b],_=>
  refine AQ func235 ntmps235 ?_;refine Sa ?_;refine CW.rounds 3 ?_;refine Sa ?_;refine Ax rfl rfl (Fh _ _) ?_;rintro v w1 ⟨rfl,hx⟩;refine Sa ?_;refine Av (λh1=>?_) λh1=>?_
  ·refine Sa ?_;refine QW.body2 rfl rfl rfl ⟨?_,hx⟩;have h1:Bb (Ab [a,b] 0)=false:=by simpa using h1
   simp[CH,AX,h1]
  have h1:Bb (Ab [a,b] 0)=true:=by simpa using h1
  have hb:=CQ [a,b] 0;have a1:65≤Ab [a,b] 0∧Ab [a,b] 0≤90:=by simpa[Bb] using h1
  have e0:Ab [a,b] (0:Int).toNat=Ab [a,b] 0:=rfl;refine Sa ?_;refine Ax rfl rfl (Fh _ _) ?_;rintro v w2 ⟨rfl,a0⟩;refine Sa ?_;refine Av (λh3=>?_) λh3=>?_
  ·refine Sa ?_;refine QW.body2 rfl rfl rfl ⟨?_,hx.trans a0⟩;have h3:Bb (Ab [a,b] 1)=false:=by simpa using h3
   simp[CH,AX,h1,h3]
  have h3:Bb (Ab [a,b] 1)=true:=by simpa using h3
  have hc:=CQ [a,b] 1;have a2:65≤Ab [a,b] 1∧Ab [a,b] 1≤90:=by simpa[Bb] using h3
  have e1:Ab [a,b] (0+1:Int).toNat=Ab [a,b] 1:=rfl;refine Sa ?_;refine QW.body2 rfl rfl rfl ⟨?_,hx.trans a0⟩;simp[CH,AX,h1,h3]
theorem Kg(x:C3)(hs:x.sheet.length≤1000)(w:World)(g:Dg w) :
  AF prog 185 [JU x] w (λv w'=>v=Am (Ct x)∧Ae w w'):=by
 obtain⟨sh,c,r,ac,ar⟩:=x;simp only at hs;simp only[JU];refine AQ func185 ntmps185 ?_;refine Sa ?_;refine Dq λb w1 hb hx hB=>?_;refine Sa ?_;refine Ax rfl rfl (MD ⟨sh,c,r,ac,ar⟩ (by simp only;omega) w1) ?_;rintro v w2 ⟨rfl,a0⟩;replace hB:=hB.ext a0;replace hx:=hx.trans a0;refine Sa ?_;refine Av (λh1=>?_) λh1=>?_
 ·refine Sa ?_;refine QW.body1 rfl rfl ⟨?_,hx⟩;have h1:AY ⟨sh,c,r,ac,ar⟩=false:=by simpa using h1
  simp[Ct,h1]
 have h1:AY ⟨sh,c,r,ac,ar⟩=true:=by simpa using h1
 have a2:=FD ac;have a3:=FD ar;have a4:=Iv c;have hm:0≤c∧c≤701∧0≤r∧r≤998:=by
  simp only[AY,Abf,decide_eq_true_eq] at h1;exact⟨h1.1.1.1.2,h1.1.1.2,h1.1.2,h1.2⟩
 have a5:=Lib.itoa_length_le (r+1) Aez Aez;refine Sa ?_;refine HZ ?_;refine Sq ?_;refine QL.call0 rfl rfl (λw3 _=>Sc ac w3) ?_;refine Sq ?_;refine QL.call0 rfl rfl (λw3 _=>Zs c Aez Aez w3) ?_;refine Sq ?_;refine QL.call0 rfl rfl (λw3 _=>Sc ar w3) ?_;refine Sq ?_;refine QL.call0 rfl rfl (λw3 h3=>MZ (r+1) Aez Aez w3 (g.ext (hx.trans h3))) ?_;refine Sq ?_;refine QL.nil λw3 a1=>?_;replace hB:=hB.ext a1;replace hx:=hx.trans a1;refine Sa ?_;refine Av (λh2=>?_) λh2=>?_
 ·have h2:sh≠[]:=by simpa using h2
  refine Sa ?_;refine QW.body1 rfl rfl ⟨?_,hx⟩;rw[Ct,if_pos h1];simp[BN,h2]
 ·have h2:sh=[]:=by simpa using h2
  refine Sa ?_;refine QW.body1 rfl rfl ⟨?_,hx⟩;rw[Ct,if_pos h1];simp[BN,h2]
theorem Ti(s:List UInt8)(b:Nat)(w:World)(hB:Blk w b [Am s] 253):AF prog 233 [.pointer (some ⟨b,0,none⟩)] w
  (λv w'=>v=.bool (Lib.hasPrefix s [36])∧Chg [b] w w'∧Blk w' b [Am (Lib.trimPrefix s [36])] 253):=by
 refine AQ func233 ntmps233 ?_;refine Sa ?_;refine Ax rfl rfl (OL s [36] w) ?_;rintro v w1 ⟨rfl,hx⟩;replace hB:=hB.ext hx;refine Sa ?_;refine BO λw2 hc a0=>?_;refine Sa ?_;exact QW.body1 rfl rfl ⟨rfl,hx.chg.same hc,a0⟩
theorem PD(p:Int→Bool)(f:Nat)(hp:∀(c:Int) (w:World),AF prog f [.int .u8 c] w (λv w'=>v=.bool (p c)∧Ae w w'))(s:List UInt8)(hs:s.length≤1000000)(b:Nat)(w:World)(hB:Blk w b [Am s] 253) :
  AF prog 234 [.pointer (some ⟨b,0,none⟩),.func (.func f) #[] #[]] w
  (λv w'=>v=Am (Aj p s)∧Chg [b] w w'∧Blk w' b [Am (Ic p s)] 253):=by
 refine AQ func234 ntmps234 ?_;refine Sa ?_;refine CW.loop (ι:=Nat) (λk w'=>k≤s.length∧Ae w w'∧∀j,j<k→p (Ab s j)=true) (λk=>[(0,.pointer (some ⟨b,0,none⟩)),(1,.func (.func f) #[] #[]),(5,.int .i64 k)]) (λk=>s.length - k) 0 ⟨by omega,Chg.refl _ _,by omega⟩ Bh ?_;rintro k w1 ⟨hk,hx,a0⟩;replace hB:=hB.ext hx;refine Sa ?_;refine B6 (λh1=>?_) λh1=>?_
 ·have h1:k<s.length:=by simpa using h1
  refine Sa ?_;refine LW.call (fs:=[]) (cs:=[]) rfl rfl rfl (hp _ _) ?_;rintro v w2 ⟨rfl,a3⟩;replace hB:=hB.ext a3;replace hx:=hx.trans a3;refine Sa ?_;refine Av (λh2=>?_) λh2=>?_
  ·have h2:p (Ab s k)=true:=h2;refine Sa ?_;refine QW.again (k+1) ⟨by omega,hx,?_⟩ Bh Aez;intro j hj;by_cases a4:j=k
   ·subst a4;exact h2
   ·exact a0 j Aez
  ·have h2:p (Ab s k)=false:=h2;have a1:=KT p s k hk a0 (Or.inr h2);refine Sa ?_;refine LW.slice_str (i:=0) (j:=k) rfl rfl rfl rfl ⟨_,_,rfl,rfl⟩ Aez hk rfl ?_;refine Sa ?_;refine LW.slice_str (i:=k) (j:=s.length) rfl rfl rfl ⟨_,_,rfl,rfl⟩ rfl hk Aez rfl ?_;refine Sa ?_;refine BO λw3 hc a2=>?_;refine Sa ?_;refine QW.body1 rfl rfl ⟨?_,hx.chg.same hc,?_⟩
   ·rw[Nx,a1.1]
   ·rw[←a1.2,←E3];exact a2
 ·have h1:k=s.length:=by simp at h1;omega
  have a1:=KT p s k hk a0 (Or.inl h1);refine Sa ?_;refine LW.slice_str (i:=0) (j:=k) rfl rfl rfl rfl ⟨_,_,rfl,rfl⟩ Aez hk rfl ?_;refine Sa ?_;refine LW.slice_str (i:=k) (j:=s.length) rfl rfl rfl ⟨_,_,rfl,rfl⟩ rfl hk Aez rfl ?_;refine Sa ?_;refine BO λw3 hc a2=>?_;refine Sa ?_;refine QW.body1 rfl rfl ⟨?_,hx.chg.same hc,?_⟩
  ·rw[Nx,a1.1]
  ·rw[←a1.2,←E3];exact a2
def O7(s:List UInt8):Option Int:=match Lib.atoiAll (Aj Aq (Cy s)) with
 | .ok n=>some n
 | _=>none
def D0(s:List UInt8):C3:=⟨CU s,(AX (Aj Bb (Cl s))).getD 0,IntKind.i64.wrap ((O7 s).getD 0 - 1),Lib.hasPrefix (CG s) [36],Lib.hasPrefix (Ds s) [36]⟩
def Bd(s:List UInt8):Bool:=(AX (Aj Bb (Cl s))).isSome&&(O7 s).isSome&&decide (Ct (D0 s)=s)&&!decide (s=[])
def ID:C3:=⟨[],0,0,false,false⟩
def F9(s:List UInt8):Value:=if Bd s then .tuple #[JU (D0 s),.bool true] else .tuple #[JU ID,.bool false]
theorem KI(s:List UInt8):CH s=.tuple #[.int .i64 ((AX s).getD 0),.bool (AX s).isSome]:=by
 unfold CH;cases AX s<;>rfl
theorem J6(s:List UInt8):-1000000≤(AX s).getD 0∧(AX s).getD 0≤1000000:=by
 unfold AX
 split
 ·rename_i a;have:=CQ [a] 0
  split<;>simp<;>omega
 ·rename_i a b;have:=CQ [a,b] 0;have:=CQ [a,b] 1
  split<;>simp<;>omega
 ·simp
theorem QV(s:List UInt8)(hs:s.length≤1000)(w:World)(g:Dg w):AF prog 215 [Am s] w (λv w'=>v=F9 s∧Ae w w'):=by
 refine AQ func215 ntmps215 ?_;refine Sa ?_;refine BX λR w1 ay hx hR=>?_;refine Sa ?_;refine BX λC w2 az ah hC=>?_;have b0:R<C:=by have:=hR.lt;omega
 replace hR:Blk w2 R (AZ ID) 113:=hR.ext ah;replace hC:Blk w2 C (AZ ID) 113:=hC;replace hx:=hx.trans ah;refine Sa ?_;refine Dq λX w3 b1 af hX=>?_;have b2:C<X:=by have:=hC.lt;omega
 replace hR:=hR.ext af;replace hC:=hC.ext af;replace hX:Blk w3 X [Am s] 253:=hX;replace hx:=hx.trans af;refine Sa ?_;refine Ax rfl rfl (Zt s [33] Aez w3 (g.ext hx)) ?_;rintro v w4 ⟨rfl,ac⟩;replace hR:=hR.ext ac;replace hC:=hC.ext ac;replace hX:=hX.ext ac;replace hx:=hx.trans ac;refine Sl ?_;apply LW.nil;apply QW.then_n;refine CW.cut (ι:=Unit) (λ_ w'=>Ae w w'∧Blk w' R (AZ ID) 113∧Blk w' C [Am (CU s),.int .i64 0,.int .i64 0,.bool false,.bool false] 113∧Blk w' X [Am (CG s)] 253)
  (λ_=>[(0,Am s),(2,.pointer (some ⟨R,0,none⟩)),(3,.bool false),(4,.pointer (some ⟨C,0,none⟩)),(5,.pointer (some ⟨X,0,none⟩))]) ?_ ?_
 ·refine Sa ?_;refine Av (λh1=>?_) λh1=>?_
  ·refine Sa ?_;refine BO λw5 ai aj=>?_;replace hR:=hR.chg ai Ae0;replace hX:=hX.chg ai Ae0;replace hx:=hx.step ai Ae0;refine Sa ?_;refine BO λw6 a7 ap=>?_;replace hR:=hR.chg a7 Ae0;replace aj:=aj.chg a7 Ae0;replace hx:=hx.step a7 Ae0;refine Sa ?_;refine QW.head () ⟨hx,hR,?_,?_⟩ Cu
   ·simpa[CU,h1,AZ,ID] using aj
   ·simpa[CG,h1] using ap
  ·refine Sa ?_;refine QW.head () ⟨hx,hR,?_,?_⟩ Cu
   ·simpa[CU,h1,AZ,ID] using hC
   ·simpa[CG,h1] using hX
 clear hx hR hC hX ah af ac;rintro _ w5 ⟨hx,hR,hC,hX⟩;have b3:(CG s).length≤s.length:=by
  unfold CG;split
  ·exact XT s [33]
  ·omega
 have ao:(Cl s).length≤1000:=Acr (GH _ _) Aez;have aq:(Ds s).length≤1000:=Acr (QA _ _) ao;have ar:(Cy s).length≤1000:=Acr (GH _ _) aq;have b4:(Aj Bb (Cl s)).length≤1000:=Acr (KS _ _) ao;have b5:(Aj Aq (Cy s)).length≤1000:=Acr (KS _ _) ar;have au:(CU s).length≤1000:=by
  unfold CU;split
  ·exact Acr (Rv s [33]) hs
  ·simp
 refine Sa ?_;refine LW.call (fs:=[.pointer (some ⟨X,0,none⟩)]) (cs:=[]) rfl rfl rfl (Ti _ X w5 hX) ?_;rintro v w6 ⟨rfl,a7,hX⟩;replace hR:=hR.chg a7 Ae0;replace hC:=hC.chg a7 Ae0;replace hx:=hx.step a7 Ae0;refine Sa ?_;refine BO λw7 ak hC=>?_;replace hR:=hR.chg ak Ae0;replace hX:=hX.chg ak Ae0;replace hx:=hx.step ak Ae0;refine Sa ?_;refine LW.call (fs:=[.pointer (some ⟨X,0,none⟩)]) (cs:=[]) rfl rfl rfl (PD Bb _ Fh (Cl s) Aez X w7 hX) ?_;rintro v w8 ⟨rfl,al,hX⟩;replace hR:=hR.chg al Ae0;replace hC:=hC.chg al Ae0;replace hx:=hx.step al Ae0;refine Sa ?_;refine Ax rfl rfl (QU _ Aez w8) ?_;rintro v w9 ⟨rfl,ag⟩;rw[KI];replace hR:=hR.ext ag;replace hC:=hC.ext ag;replace hX:=hX.ext ag;replace hx:=hx.trans ag;refine Sa ?_;refine LW.call (fs:=[.pointer (some ⟨X,0,none⟩)]) (cs:=[]) rfl rfl rfl (Ti (Ds s) X w9 hX) ?_;rintro v b6 ⟨rfl,a8,hX⟩;replace hR:=hR.chg a8 Ae0;replace hC:=hC.chg a8 Ae0;replace hx:=hx.step a8 Ae0;refine Sa ?_;refine BO λav a9 hC=>?_;replace hR:=hR.chg a9 Ae0;replace hX:=hX.chg a9 Ae0;replace hx:=hx.step a9 Ae0;refine Sa ?_;refine LW.call (fs:=[.pointer (some ⟨X,0,none⟩)]) (cs:=[]) rfl rfl rfl (PD Aq _ Pf (Cy s) Aez X av hX) ?_;rintro v aw ⟨rfl,aa,hX⟩;replace hR:=hR.chg aa Ae0;replace hC:=hC.chg aa Ae0;replace hx:=hx.step aa Ae0;refine Sa ?_;refine Ax rfl rfl (Im _ Aez aw (g.ext hx)) ?_;rintro v b7 ⟨hv,a6⟩;replace hR:=hR.ext a6;replace hC:=hC.ext a6;replace hX:=hX.ext a6;replace hx:=hx.trans a6;have b8:=J6 (Aj Bb (Cl s))
 cases a5:O7 s with
 | some z=>
  have hv:v=.tuple #[.int .i64 z,.nilIface]:=by
   unfold O7 at a5;unfold Jv at hv
   split at a5
   ·rename_i m hm;rw[hm] at hv;simp only[Aa3] at a5;subst a5;exact hv
   ·cases a5
  subst hv;refine Sa ?_;refine LW.arith (op:=.sub) rfl rfl rfl rfl rfl ?_;refine Sa ?_;refine BO λax a3 hC=>?_;replace hR:=hR.chg a3 Ae0;replace hx:=hx.step a3 Ae0;refine Sa ?_;refine BO λam a4 hC=>?_;replace hR:=hR.chg a4 Ae0;replace hx:=hx.step a4 Ae0;replace hC:Blk am C (AZ (D0 s)) 113:=by
   have e:AZ (D0 s)=[Am (CU s),.int .i64 ((AX (Aj Bb (Cl s))).getD 0),.int .i64 (IntKind.i64.wrap (z - 1)),.bool (Lib.hasPrefix (CG s) [36]),.bool (Lib.hasPrefix (Ds s) [36])]:=by
    simp[AZ,D0,a5]
   rw[e];exact hC
  refine Sa ?_
  cases an:AX (Aj Bb (Cl s)) with
  | none=>
   have a2:Bd s=false:=by simp[Bd,an]
   refine Sa ?_;refine AR λad a0 a1=>?_;refine Sa ?_;refine QW.body_ct rfl rfl a1 rfl rfl rfl rfl ⟨?_,hx.step a0 Ae0⟩;rw[F9,a2]
   rfl
  | some cz=>
   refine Sa ?_;refine Ax rfl rfl (Kg (D0 s) au am (g.ext hx)) ?_;rintro v b9 ⟨rfl,ab⟩;replace hR:=hR.ext ab;replace hC:=hC.ext ab;replace hx:=hx.trans ab;refine Sa ?_;refine B6 (λh1=>?_) λh1=>?_
   ·have a2:Bd s=false:=by
     have h1:¬Ct (D0 s)=s:=by simpa using h1
     simp[Bd,h1]
    refine Sa ?_;refine AR λad a0 a1=>?_;refine Sa ?_;refine QW.body_ct rfl rfl a1 rfl rfl rfl rfl ⟨?_,hx.step a0 Ae0⟩;rw[F9,a2];rfl
   ·have h1:Ct (D0 s)=s:=by simpa using h1
    refine Sa ?_;refine Av (λh2=>?_) λh2=>?_
    ·have a2:Bd s=false:=by
      have h2:s=[]:=by simpa using h2
      simp[Bd,h2]
     refine Sa ?_;refine AR λad a0 a1=>?_;refine Sa ?_;refine QW.body_ct rfl rfl a1 rfl rfl rfl rfl ⟨?_,hx.step a0 Ae0⟩;rw[F9,a2];rfl
    ·have h2:¬s=[]:=by simpa using h2
     have ae:Bd s=true:=by simp[Bd,an,a5,h1,h2]
     refine Sa ?_;refine AR λad a0 a1=>?_;refine Sa ?_;refine QW.body_ct rfl rfl a1 rfl rfl rfl rfl ⟨?_,hx.step a0 Ae0⟩;rw[F9,if_pos ae]
     rfl
 | none=>
  have hv:∃z t x,v=.tuple #[.int .i64 z,.iface t x]:=by
   unfold O7 at a5;unfold Jv at hv;cases ha:Lib.atoiAll (Aj Aq (Cy s))<;>simp only[ha,reduceCtorEq] at a5 hv<;>exact hv
  obtain⟨z,te,xe,rfl⟩:=hv;have a2:Bd s=false:=by simp[Bd,a5]
  refine Sa ?_;refine LW.arith (op:=.sub) rfl rfl rfl rfl rfl ?_;refine Sa ?_;refine BO λax a3 hC=>?_;replace hR:=hR.chg a3 Ae0;replace hx:=hx.step a3 Ae0;refine Sa ?_;refine BO λam a4 hC=>?_;replace hR:=hR.chg a4 Ae0;replace hx:=hx.step a4 Ae0
  cases an:AX (Aj Bb (Cl s)) with
  | none=>
   refine Sa ?_;refine AR λad a0 a1=>?_;refine Sa ?_;refine QW.body_ct rfl rfl a1 rfl rfl rfl rfl ⟨?_,hx.step a0 Ae0⟩;rw[F9,a2]
   rfl
  | some cz=>
   refine Sa ?_;refine AR λad a0 a1=>?_;refine Sa ?_;refine QW.body_ct rfl rfl a1 rfl rfl rfl rfl ⟨?_,hx.step a0 Ae0⟩;rw[F9,a2];rfl
theorem Kp{l:List UInt8}{i:Nat}{c:UInt8}(hi:i<l.length):Ab l i=(c.toNat:Int)↔l[i]?=some c:=by
 rw[BA hi,Aak hi];constructor
 ·intro h;have:l[i].toNat=c.toNat:=Aez
  rw[AdI.1 this]
 ·intro h;simp only[Aa3] at h;rw[h]
theorem YB(s:List UInt8)(i:Nat):Lib.occAt s [33] i=decide (s[i]?=some 33):=by
 unfold Lib.occAt
 cases h:s.drop i with
 | nil=>
  have:s.length≤i:=by
   have:=congrArg List.length h;simp at this;omega
  simp[AbK this]
 | cons c r=>
  have a0:i<s.length:=by
   have:=congrArg List.length h;simp at this;omega
  have:s[i]?=some c:=by
   have:=congrArg (λl:List UInt8=>l[0]?) h
   simpa using this
  rw[this];rw[Ad6];simp[List.isPrefixOf];exact eq_comm
theorem L0{s:List UInt8}{k:Nat}(hk:k<s.length)(h:Ab s k=33)(hn:∀j,j<k→Ab s j≠33):Lib.cut s [33]=(s.take k,s.drop (k+1),true):=by
 have hi:Lib.index s [33]=k:=by
  refine Lib.index_hit (λj hj=>?_) Aez ?_
  ·rw[YB,decide_eq_false_iff_not];intro hh;exact hn j hj ((Kp (c:=33) Aez).2 hh)
  ·rw[YB,decide_eq_true_eq];exact(Kp (c:=33) hk).1 h
 unfold Lib.cut;rw[hi,if_pos Aez];simp
theorem Rw{s:List UInt8}(hn:∀j,j<s.length→Ab s j≠33):Lib.cut s [33]=(s,[],false):=by
 have hi:Lib.index s [33]=-1:=by
  refine Lib.index_past (i:=s.length) Ae7 (λj hj=>?_) Ae7;rw[YB,decide_eq_false_iff_not];intro hh;exact hn j hj ((Kp (c:=33) hj).2 hh)
 unfold Lib.cut;rw[hi,if_neg Aez]
theorem KF(l:List UInt8):Lib.hasPrefix l [36]=decide (0<l.length∧Ab l 0=36):=by
 cases l with
 | nil=>rfl
 | cons c r=>
  rw[Ad6];have:=Kp (l:=c::r) (i:=0) (c:=36) Ae7;simp[Lib.hasPrefix,List.isPrefixOf];rw[show(36:Int)=(((36:UInt8).toNat:Nat):Int) from rfl,this];simp[eq_comm]
theorem IP(l:List UInt8):Lib.trimPrefix l [36]=if 0<l.length∧Ab l 0=36 then l.drop 1 else l:=by
 unfold Lib.trimPrefix;rw[KF];simp only[decide_eq_true_eq];rfl
def d3(n:Nat):List UInt8:=
 if n<10 then[ch (48+(n:Int))] else if n<100 then[ch (48+((n / 10:Nat):Int)),ch (48+(n:Int) % 10)] else[ch (48+((n / 100:Nat):Int)),ch (48+((n / 10:Nat):Int) % 10),ch (48+(n:Int) % 10)]
theorem CV{u:Nat}(h:u<10):Lib.decDigits u=[ch (48+(u:Int))]:=by
 rw[Lib.decDigits,dif_pos h];rfl
theorem E4{u:Nat}(h:10≤u):Lib.decDigits u=Lib.decDigits (u / 10)++[ch (48+(u:Int) % 10)]:=by
 rw[Lib.decDigits,dif_neg Aez]
 congr 2
theorem Abq{n:Nat}(h:n<1000):Lib.decDigits n=d3 n:=by
 unfold d3
 split
 ·rename_i h1;exact CV h1
 ·rename_i h1;rw[E4 Aez]
  split
  ·rw[CV Aez];rfl
  ·rw[E4 Aez,CV Aez];have:n / 10 / 10=n / 100:=Aez
   rw[this];rfl
def S2(n:Nat):Bool:=(d3 n).all (λc=>Aq (c.toNat:Int))&&decide (0<(d3 n).length)&&decide ((d3 n).length≤3)&&decide (Lib.atoiAll (d3 n)=.ok (n:Int))
theorem TG:∀n:Fin 1000,S2 n.val=true:=by decide +kernel
theorem Vq{z:Int}(h0:0≤z)(h1:z<1000):Lib.itoa z=d3 z.toNat:=by
 unfold Lib.itoa;rw[if_neg Aez,Abq Aez]
theorem G3{z:Int}(h0:0≤z)(h1:z<1000):(∀c∈Lib.itoa z,Aq (c.toNat:Int)=true)∧0<(Lib.itoa z).length∧(Lib.itoa z).length≤3∧Lib.atoiAll (Lib.itoa z)=.ok z:=by
 have:=TG ⟨z.toNat,by omega⟩;rw[Vq h0 h1];simp only[S2,Abf,Ac2,decide_eq_true_eq] at this;obtain⟨⟨⟨a1,a2⟩,a3⟩,a4⟩:=this;exact⟨a1,a2,a3,by rw[a4];congr 1;omega⟩
def Aa4(n:Nat):Bool:=(E2 (n:Int)).all (λc=>Bb (c.toNat:Int))&&decide (0<(E2 (n:Int)).length)&&decide (AX (E2 (n:Int))=some (n:Int))
theorem XF:∀n:Fin 702,Aa4 n.val=true:=by decide +kernel
theorem Nu{z:Int}(h0:0≤z)(h1:z≤701):(∀c∈E2 z,Bb (c.toNat:Int)=true)∧0<(E2 z).length∧AX (E2 z)=some z:=by
 have:=XF ⟨z.toNat,by omega⟩;have e:((z.toNat:Nat):Int)=z:=Aez
 simp only[Aa4,e,Abf,Ac2,decide_eq_true_eq] at this;exact⟨this.1.1,this.1.2,this.2⟩
theorem DE{r:C3}(h:AY r=true):(r.sheet=[]∨D7 r.sheet=true)∧0≤r.col∧r.col≤701∧0≤r.row∧r.row≤998:=by
 simp only[AY,Abf,AcU,decide_eq_true_eq] at h;exact⟨h.1.1.1.1,h.1.1.1.2,h.1.1.2,h.1.2,h.2⟩
theorem EW{l:List UInt8}(h:D7 l=true):l≠[]∧l.length≤12∧∀j,j<l.length→T8 (Ab l j)=true:=by
 simp only[D7,Abf,decide_eq_true_eq] at h;exact⟨h.1.1.1,h.1.1.2,h.2⟩
def EC(r:C3):List UInt8:=Lib.itoa (r.row+1)
def EP(r:C3):List UInt8:=D5 r.ar++EC r
def Ig(r:C3):List UInt8:=E2 r.col++EP r
def EO(r:C3):List UInt8:=D5 r.ac++Ig r
theorem Tt(r:C3):BN r=(if r.sheet=[] then[] else r.sheet++[33])++EO r:=by
 simp[BN,EO,Ig,EP,EC]
theorem LU(p:Int→Bool):∀(a b:List UInt8),(∀c∈a,p (c.toNat:Int)=true)→(b=[]∨p (Ab b 0)=false)→Aj p (a++b)=a∧Ic p (a++b)=b
 | [],b,_,hb=>by
  cases b with
  | nil=>simp[Aj,Ic]
  | cons c r=>
   have hc:p (c.toNat:Int)=false:=by
    rcases hb with hb | hb
    ·cases hb
    ·exact hb
   simp[Aj,Ic,hc]
 | c::a,b,ha,hb=>by
  have hc:=ha c Ae7;obtain⟨h1,h2⟩:=LU p a b (λd hd=>ha d (by simp[hd])) hb;simp only[Aj,Ic] at h1 h2 ⊢;simp[hc,h1,h2]
theorem BE{a b:List UInt8}{j:Nat}(h:j<a.length):Ab (a++b) j=Ab a j:=by
 unfold Ab;rw[AaE,AaE,Abg h]
theorem DT{l:List UInt8}{j:Nat}(h:j<l.length):∃c∈l,Ab l j=(c.toNat:Int):=⟨l[j],AcF h,BA h⟩
theorem Vf(z:Int)(h:Bb z=true):z≠33∧z≠36∧Aq z=false:=by
 simp[Bb] at h;refine⟨by omega,by omega,?_⟩;simp[Aq];omega
theorem Vi(z:Int)(h:Aq z=true):z≠33∧z≠36∧Bb z=false:=by
 simp[Aq] at h;refine⟨by omega,by omega,?_⟩;simp[Bb];omega
theorem AaN(z:Int)(h:T8 z=true):z≠33∧z≠36:=by
 simp[T8,F4,Bb,Aq] at h;omega
theorem Abv{r:C3}(h:AY r=true):∀c∈EO r,(c.toNat:Int)≠33:=by
 obtain⟨_,c0,c1,r0,r1⟩:=DE h;obtain⟨hc,_,_⟩:=Nu c0 c1;obtain⟨hd,_,_,_⟩:=G3 (z:=r.row+1) Aez Aez;intro c hm;have mk:∀b,c∈D5 b→(c.toNat:Int)≠33:=λb hb=>by
  cases b
  ·simp[D5] at hb
  ·simp[D5] at hb;subst hb;decide
 simp only[EO,Ig,EP,EC,AbB] at hm;rcases hm with hm | hm | hm | hm
 ·exact mk _ hm
 ·exact(Vf _ (hc c hm)).1
 ·exact mk _ hm
 ·exact(Vi _ (hd c hm)).1
theorem VA{r:C3}(h:AY r=true) :
  CU (BN r)=r.sheet∧CG (BN r)=EO r∧Lib.hasPrefix (EO r) [36]=r.ac∧Cl (BN r)=Ig r∧Aj Bb (Ig r)=E2 r.col∧Ds (BN r)=EP r∧
  Lib.hasPrefix (EP r) [36]=r.ar∧Cy (BN r)=EC r∧Aj Aq (EC r)=EC r:=by
 obtain⟨hs,c0,c1,r0,r1⟩:=DE h;obtain⟨hc,a2,_⟩:=Nu c0 c1;obtain⟨hd,a3,_,_⟩:=G3 (z:=r.row+1) Aez Aez;have a4:=Abv h;have e0:CU (BN r)=r.sheet∧CG (BN r)=EO r:=by
  rw[Tt];by_cases a1:r.sheet=[]
  ·rw[if_pos a1,Acb];have a0:=Rw (s:=EO r) (λj hj=>by
    obtain⟨c,hm,e⟩:=DT hj;rw[e];exact a4 c hm)
   simp[CU,CG,a0,a1]
  ·rw[if_neg a1];have hn:D7 r.sheet=true:=hs.resolve_left a1;obtain⟨_,_,a5⟩:=EW hn;have a0:=L0 (s:=r.sheet++[33]++EO r) (k:=r.sheet.length) Ae7
    (by
     refine(Kp (c:=33) Ae7).2 ?_;simp)
    (λj hj=>by
     rw[Abh,BE hj];exact(AaN _ (a5 j hj)).1)
   have t1:(r.sheet++[33]++EO r).take r.sheet.length=r.sheet:=by rw[Abh,List.take_left]
   have t2:(r.sheet++[33]++EO r).drop (r.sheet.length+1)=EO r:=by
    have:(r.sheet++[33]).length=r.sheet.length+1:=Ae7
    rw[←this,Aev]
   rw[t1,t2] at a0;unfold CU CG;rw[a0];exact⟨rfl,rfl⟩
 have bcol:Ab (Ig r) 0≠36:=by
  obtain⟨c,hm,e⟩:=DT a2;rw[Ig,BE a2,e];exact(Vf _ (hc c hm)).2.1
 have bdig:Ab (EC r) 0≠36∧Bb (Ab (EC r) 0)=false:=by
  obtain⟨c,hm,e⟩:=DT a3;rw[EC,e];exact(Vi _ (hd c hm)).2
 have p0:Lib.hasPrefix (EO r) [36]=r.ac∧Lib.trimPrefix (EO r) [36]=Ig r:=by
  rw[KF,IP]
  cases ha:r.ac with
  | true=>
   have e:EO r=36::Ig r:=by simp[EO,D5,ha]
   have b:Ab (36::Ig r) 0=36:=rfl
   rw[e];simp[b]
  | false=>
   have e:EO r=Ig r:=by simp[EO,D5,ha]
   rw[e];simp[bcol]
 have p2:Lib.hasPrefix (EP r) [36]=r.ar∧Lib.trimPrefix (EP r) [36]=EC r:=by
  rw[KF,IP]
  cases ha:r.ar with
  | true=>
   have e:EP r=36::EC r:=by simp[EP,D5,ha]
   have b:Ab (36::EC r) 0=36:=rfl
   rw[e];simp[b]
  | false=>
   have e:EP r=EC r:=by simp[EP,D5,ha]
   rw[e];simp[bdig.1]
 have a6:Bb (Ab (EP r) 0)=false:=by
  cases ha:r.ar with
  | true=>
   have e:EP r=36::EC r:=by simp[EP,D5,ha]
   rw[e];rfl
  | false=>
   have e:EP r=EC r:=by simp[EP,D5,ha]
   rw[e];exact bdig.2
 have s1:=LU Bb (E2 r.col) (EP r) hc (Or.inr a6);have s3:=LU Aq (EC r) [] hd (Or.inl rfl);rw[Acq] at s3;have k1:Cl (BN r)=Ig r:=by rw[Cl,e0.2,p0.2]
 have k2:Ds (BN r)=EP r:=by rw[Ds,k1];exact s1.2
 exact⟨e0.1,e0.2,p0.1,k1,s1.1,k2,p2.1,by rw[Cy,k2,p2.2],s3.1⟩
theorem OG{r:C3}(h:AY r=true):BN r≠[]:=by
 obtain⟨_,_,_,r0,r1⟩:=DE h;obtain⟨_,a0,_,_⟩:=G3 (z:=r.row+1) Aez Aez;intro he;have:=congrArg List.length he;simp[BN] at this;have h2:=this.2.2.2.2;rw[h2] at a0;simp at a0
theorem P3{r:C3}(h:AY r=true):Bd (BN r)=true∧D0 (BN r)=r:=by
 obtain⟨q1,q2,q3,q4,q5,q6,q7,q8,q9⟩:=VA h;obtain⟨_,c0,c1,r0,r1⟩:=DE h;obtain⟨_,_,a0⟩:=Nu c0 c1;obtain⟨_,_,_,a2⟩:=G3 (z:=r.row+1) Aez Aez;have a1:O7 (BN r)=some (r.row+1):=by
  unfold O7;rw[q8,q9,EC,a2]
 have hv:D0 (BN r)=r:=by
  unfold D0;rw[q1,q4,q5,a0,a1,q2,q3,q6,q7];have:IntKind.i64.wrap ((some (r.row+1)).getD 0 - 1)=r.row:=by
   rw[Adh,show r.row+1 - 1=r.row by omega];exact DX Aez Aez
  rw[this];rfl
 refine⟨?_,hv⟩;unfold Bd;rw[hv,q4,q5,a0,a1,Ct,if_pos h];simp[OG h]
theorem VB{s:List UInt8}(h:Bd s=true):AY (D0 s)=true∧BN (D0 s)=s:=by
 simp only[Bd,Abf,decide_eq_true_eq,Adw,decide_eq_false_iff_not] at h;obtain⟨⟨_,h1⟩,h2⟩:=h;unfold Ct at h1
 split at h1
 ·rename_i hm;exact⟨hm,h1⟩
 ·exact absurd h1.symm h2
theorem Q9{s:List UInt8}(h:∀r,AY r=true→BN r≠s):Bd s=false:=by
 cases hk:Bd s
 ·rfl
 ·obtain⟨a,b⟩:=VB hk;exact absurd b (h _ a)
theorem Dh(c:Int)(w:World):AF prog 193 [.int .u8 c] w (λv w'=>v=.bool (Bb c)∧Ae w w'):=by
 refine AQ func193 ntmps193 ?_;refine Sa ?_;refine B6 (λh1=>?_) λh1=>?_
 all_goals
  refine Sa ?_;refine QW.body1 rfl rfl ⟨?_,Chg.refl _ _⟩;simp[Bb,h1]
theorem Fb(c:Int)(w:World):AF prog 55 [.int .u8 c] w (λv w'=>v=.bool (Aq c)∧Ae w w'):=by
 refine AQ func55 ntmps55 ?_;refine Sa ?_;refine B6 (λh1=>?_) λh1=>?_
 all_goals
  refine Sa ?_;refine QW.body1 rfl rfl ⟨?_,Chg.refl _ _⟩;simp[Aq,h1]
theorem IF(c:Int)(w:World):AF prog 54 [.int .u8 c] w (λv w'=>v=.bool (F4 c)∧Ae w w'):=by
 refine AQ func54 ntmps54 ?_;refine Sa ?_;refine B6 (λh1=>?_) λh1=>?_
 ·refine Sa ?_;refine B6 (λh2=>?_) λh2=>?_
  ·refine Sa ?_;refine QW.body1 rfl rfl ⟨?_,Chg.refl _ _⟩;simp[F4,Bb,h1,h2]
  ·refine Sa ?_;refine B6 (λh3=>?_) λh3=>?_
   all_goals
    refine Sa ?_;refine QW.body1 rfl rfl ⟨?_,Chg.refl _ _⟩;simp[F4,Bb,h1,h2,h3]
 ·refine Sa ?_;refine B6 (λh3=>?_) λh3=>?_
  all_goals
   refine Sa ?_;refine QW.body1 rfl rfl ⟨?_,Chg.refl _ _⟩;simp[F4,Bb,h1,h3]
theorem Oz(n:Int)(h0:-9223372036854775808≤n)(h1:n≤9223372036854775807)(w:World):AF prog 74 [.int .i64 n] w (λv w'=>v=Am (E2 n)∧Ae w w'):=by
 refine AQ func74 ntmps74 ?_;refine Sa ?_;refine B6 (λh2=>?_) λh2=>?_
 ·have h2:n<0:=by simpa using h2
  refine Sa ?_;refine QW.body1 rfl rfl ⟨?_,Chg.refl _ _⟩;rw[E2,if_pos Aez]
 have h2:0≤n:=by simpa using h2
 refine Sa ?_;refine Av (λh3=>?_) λh3=>?_
 ·have h3:701<n:=by simpa using h3
  refine Sa ?_;refine QW.body1 rfl rfl ⟨?_,Chg.refl _ _⟩;rw[E2,if_pos Aez]
 have h3:n≤701:=by simpa using h3
 refine Sa ?_;refine Av (λh4=>?_) λh4=>?_
 ·have h4:n<26:=by simpa using h4
  refine Sa ?_;refine Cx λb w1 hb hx hB=>?_;replace hB:Blk w1 b [.int .u8 (65+n)] 5:=hB;refine Sa ?_;refine QW.body1 rfl rfl ⟨?_,hx⟩;rw[E2,if_neg Aez,if_pos h4]
 ·have h4:26≤n:=by simpa using h4
  refine Sa ?_;refine Cx λb w1 hb hx hB=>?_;replace hB:Blk w1 b [.int .u8 (65+n / 26 - 1),.int .u8 (65+n % 26)] 5:=hB;refine Sa ?_;refine QW.body1 rfl rfl ⟨?_,hx⟩;rw[E2,if_neg Aez,if_neg Aez]
theorem Q8(s:List UInt8)(hs:s.length≤1000000)(w:World):AF prog 194 [Am s] w (λv w'=>v=CH s∧Ae w w'):=by
 match s,hs with
 | [],_=>
  refine AQ func194 ntmps194 ?_;refine Sa ?_
  refine QW.body2 rfl rfl rfl ⟨rfl,Chg.refl _ _⟩
 | a::b::c::l,hs=>
  simp at hs;refine AQ func194 ntmps194 ?_;refine Sa ?_;refine B6 (λh=>?_) λh=>?_
  ·refine Sa ?_;refine QW.body2 rfl rfl rfl ⟨rfl,Chg.refl _ _⟩
  ·simp at h;omega
 | [a],_=>
  refine AQ func194 ntmps194 ?_;refine Sa ?_;refine Ax rfl rfl (Dh _ _) ?_;rintro v w1 ⟨rfl,hx⟩;refine Sa ?_;refine B6 (λh1=>?_) λh1=>?_
  ·refine Sa ?_;refine QW.body2 rfl rfl rfl ⟨?_,hx⟩;have h1:Bb (Ab [a] 0)=false:=by simpa using h1
   simp[CH,AX,h1]
  have h1:Bb (Ab [a] 0)=true:=by simpa using h1
  refine Sa ?_;refine Ax rfl rfl (Dh _ _) ?_;rintro v w2 ⟨rfl,a0⟩;refine Sa ?_;refine Av (λh2=>?_) λh2=>?_
  ·have h2:Bb (Ab [a] 0)=false:=by simpa using h2
   rw[h1] at h2;cases h2
  have hb:=CQ [a] 0;have a1:65≤Ab [a] 0∧Ab [a] 0≤90:=by simpa[Bb] using h1
  have e0:Ab [a] (0:Int).toNat=Ab [a] 0:=rfl;refine Sa ?_;refine QW.body2 rfl rfl rfl ⟨?_,hx.trans a0⟩
  simp[CH,AX,h1]
 | [a,b],_=>
  refine AQ func194 ntmps194 ?_;refine Sa ?_;refine Ax rfl rfl (Dh _ _) ?_;rintro v w1 ⟨rfl,hx⟩;refine Sa ?_;refine B6 (λh1=>?_) λh1=>?_
  ·refine Sa ?_;refine QW.body2 rfl rfl rfl ⟨?_,hx⟩;have h1:Bb (Ab [a,b] 0)=false:=by simpa using h1
   simp[CH,AX,h1]
  have h1:Bb (Ab [a,b] 0)=true:=by simpa using h1
  refine Sa ?_;refine Ax rfl rfl (Dh _ _) ?_;rintro v w2 ⟨rfl,a0⟩;refine Sa ?_;refine Av (λh2=>?_) λh2=>?_
  ·refine Sa ?_;refine QW.body2 rfl rfl rfl ⟨?_,hx.trans a0⟩;have h2:Bb (Ab [a,b] 1)=false:=by simpa using h2
   simp[CH,AX,h1,h2]
  have h2:Bb (Ab [a,b] 1)=true:=by simpa using h2
  have hb:=CQ [a,b] 0;have a1:65≤Ab [a,b] 0∧Ab [a,b] 0≤90:=by simpa[Bb] using h1
  have e0:Ab [a,b] (0:Int).toNat=Ab [a,b] 0:=rfl;have hc:=CQ [a,b] 1;have a3:65≤Ab [a,b] 1∧Ab [a,b] 1≤90:=by simpa[Bb] using h2
  have e1:Ab [a,b] (1:Int).toNat=Ab [a,b] 1:=rfl;refine Sa ?_;refine HZ ?_;refine Sq ?_;refine QL.nil λw3 a2=>?_;refine Sa ?_;refine QW.body2 rfl rfl rfl ⟨?_,(hx.trans a0).trans a2⟩;simp[CH,AX,h1,h2];omega
theorem Pz(s:List UInt8)(hs:s.length≤9223372036854775807)(w:World):AF prog 40 [Am s] w (λv w'=>v=.bool (D7 s)∧Ae w w'):=by
 refine AQ func40 ntmps40 ?_;refine Sa ?_;refine CW.loop (ι:=Nat) (λk w'=>k≤s.length∧Ae w w'∧(0<k→F4 (Ab s 0)=true)∧∀j,j<k→T8 (Ab s j)=true) (λk=>[(0,Am s),(3,.int .i64 k)]) (λk=>s.length - k) 0 ⟨by omega,Chg.refl _ _,by omega,by omega⟩ EH ?_;rintro k w1 ⟨hk,hx,hf,a0⟩;refine Sa ?_;refine Av (λh1=>?_) λh1=>?_
 ·have h1:k<s.length:=by simpa using h1
  refine Sa ?_;refine Ax rfl rfl (IF _ _) ?_;rintro v w2 ⟨rfl,a2⟩;replace hx:=hx.trans a2;refine Sa ?_;refine B6 (λh2=>?_) λh2=>?_
  ·have h2:F4 (Ab s k)=false:=by simpa using h2
   refine Sa ?_;refine B6 (λh3=>?_) λh3=>?_
   ·have h3:0<k:=by simpa using h3
    refine Sa ?_;refine Ax rfl rfl (Fb _ _) ?_;rintro v w3 ⟨rfl,a3⟩;replace hx:=hx.trans a3;refine Sa ?_;refine Av (λh4=>?_) λh4=>?_
    ·have h4:Aq (Ab s k)=false:=by simpa using h4
     refine Sa ?_;refine QW.body1 rfl rfl ⟨?_,hx⟩;rw[Sm h1 (by simp[T8,h2,h4])]
    ·have h4:Aq (Ab s k)=true:=by simpa using h4
     refine Sa ?_;refine QW.again (k+1) ⟨by omega,hx,λ_=>hf h3,?_⟩ EH Aez;intro j hj;by_cases a1:j=k
     ·subst a1;simp[T8,h4]
     ·exact a0 j Aez
   ·have h3:k=0:=by simpa using h3
    subst h3;refine Sa ?_;refine QW.body1 rfl rfl ⟨?_,hx⟩;rw[Mp h2]
  ·have h2:F4 (Ab s k)=true:=by simpa using h2
   refine Sa ?_;refine QW.again (k+1) ⟨by omega,hx,λ_=>?_,?_⟩ EH Aez
   ·by_cases a4:k=0
    ·subst a4;exact h2
    ·exact hf Aez
   ·intro j hj;by_cases a1:j=k
    ·subst a1;simp[T8,h2]
    ·exact a0 j Aez
 ·have h1:k=s.length:=by simp at h1;omega
  subst h1;refine Sa ?_;refine B6 (λh2=>?_) λh2=>?_
  ·have h2:1≤s.length:=by simp at h2;omega
   have a5:s≠[]:=by intro h;rw[h] at h2;simp at h2
   refine Sa ?_;refine QW.body1 rfl rfl ⟨?_,hx⟩;by_cases h3:s.length≤12
   ·rw[NZ a5 h3 (hf Aez) a0];simp;omega
   ·rw[NY Aez];simp;omega
  ·have h2:s=[]:=by
    apply AbX;simp at h2;omega
   subst h2;refine Sa ?_;refine QW.body1 rfl rfl ⟨rfl,hx⟩
theorem J2{u:Nat}(h:10≤u):Lib.decDigits u=Lib.decDigits (u / 10)++[ch (48+(u:Int) % 10)]:=by
 rw[Lib.decDigits,dif_neg Aez]
 congr 2
theorem Ia{u:Nat}(h:u<10):Lib.decDigits u=[ch (48+(u:Int))]:=by
 rw[Lib.decDigits,dif_pos h];rfl
theorem H9(k:Int)(h0:0≤k)(h1:k≤9223372036854775807)(w:World):AF prog 16 [.int .i64 k] w (λv w'=>v=Am (Lib.itoa k)∧Ae w w'):=by
 obtain⟨m,rfl⟩:=AcI h0;have a2:Lib.itoa (m:Int)=Lib.decDigits m:=by unfold Lib.itoa;rw[if_neg Aez];rfl
 have a0:=Lib.itoa_length_le (m:Int) Aez h1;rw[a2] at a0;rw[a2];refine AQ func16 ntmps16 ?_;refine Sa ?_;refine CW.loop (ι:=Nat×List UInt8) (λi w'=>i.1≤m∧Ae w w'∧Lib.decDigits m=Lib.decDigits i.1++i.2) (λi=>[(0,.int .i64 (m:Int)),(3,.int .u64 (i.1:Int)),(4,Am i.2)]) (λi=>i.1) (m,[]) ⟨by simp,Chg.refl _ _,by simp⟩ Bh ?_;rintro⟨u,acc⟩ w1 ⟨hu,hx,hd⟩;simp only at hu hd;have a3:acc.length≤21:=by
  have:=congrArg List.length hd;rw[Aax] at this;omega
 refine Sa ?_;refine Av (λh2=>?_) λh2=>?_
 ·have h2:10≤u:=by simp at h2;omega
  refine Sa ?_;refine Cx λb w2 hb a1 hB=>?_;replace hB:Blk w2 b [.int .u8 (48+(u:Int) % 10)] 5:=hB;replace hx:=hx.trans a1;refine Sa ?_;refine QW.again (u / 10,[ch (48+(u:Int) % 10)]++acc) ⟨?_,hx,?_⟩ Bh ?_
  ·simp only;omega
  ·simp only;rw[hd,J2 h2];simp
  ·simp only;omega
 ·have h2:u<10:=by simp at h2;omega
  refine Sa ?_;refine Cx λb w2 hb a1 hB=>?_;replace hB:Blk w2 b [.int .u8 (48+(u:Int))] 5:=hB;replace hx:=hx.trans a1;refine Sa ?_;refine QW.body1 rfl rfl ⟨?_,hx⟩;rw[hd,Ia h2]
theorem Fv(x:C3)(hs:x.sheet.length≤9223372036854775807)(w:World):AF prog 146 [JU x] w (λv w'=>v=.bool (AY x)∧Ae w w'):=by
 obtain⟨sh,c,r,ac,ar⟩:=x;simp only[JU];refine AQ func146 ntmps146 ?_;refine Sa ?_;refine Dq λb w1 hb hx hB=>?_;refine Sa ?_;refine B6 (λh1=>?_) λh1=>?_
 ·refine Sa ?_;refine B6 (λh2=>?_) λh2=>?_
  ·refine Sa ?_;refine B6 (λh3=>?_) λh3=>?_
   ·refine Sa ?_;refine B6 (λh4=>?_) λh4=>?_
    ·refine Sa ?_;refine QW.body1 rfl rfl ⟨?_,hx⟩;simp[AY, *]
    ·refine Sa ?_;refine QW.body1 rfl rfl ⟨?_,hx⟩;simp[AY, *]
   ·refine Sa ?_;refine QW.body1 rfl rfl ⟨?_,hx⟩;simp[AY, *]
  ·refine Sa ?_;refine QW.body1 rfl rfl ⟨?_,hx⟩;simp[AY, *]
 ·refine Sa ?_;refine Ax rfl rfl (Pz _ hs _) ?_;rintro v w2 ⟨rfl,a0⟩;replace hB:=hB.ext a0;replace hx:=hx.trans a0;refine Sa ?_;refine B6 (λh0=>?_) λh0=>?_
  ·refine Sa ?_;refine B6 (λh2=>?_) λh2=>?_
   ·refine Sa ?_;refine B6 (λh3=>?_) λh3=>?_
    ·refine Sa ?_;refine B6 (λh4=>?_) λh4=>?_
     ·refine Sa ?_;refine QW.body1 rfl rfl ⟨?_,hx⟩;simp[AY, *]
     ·refine Sa ?_;refine QW.body1 rfl rfl ⟨?_,hx⟩;simp[AY, *]
    ·refine Sa ?_;refine QW.body1 rfl rfl ⟨?_,hx⟩;simp[AY, *]
   ·refine Sa ?_;refine QW.body1 rfl rfl ⟨?_,hx⟩;simp[AY, *]
  ·refine Sa ?_;refine QW.body1 rfl rfl ⟨?_,hx⟩;simp[AY, *]
theorem Gy(x:C3)(hs:x.sheet.length≤1000)(w:World):AF prog 118 [JU x] w (λv w'=>v=Am (Ct x)∧Ae w w'):=by
 obtain⟨sh,c,r,ac,ar⟩:=x;simp only at hs;simp only[JU];refine AQ func118 ntmps118 ?_;refine Sa ?_;refine Dq λb w1 hb hx hB=>?_;refine Sa ?_;refine Ax rfl rfl (Fv ⟨sh,c,r,ac,ar⟩ (by simp only;omega) w1) ?_;rintro v w2 ⟨rfl,a2⟩;replace hB:=hB.ext a2;replace hx:=hx.trans a2;refine Sa ?_;refine Av (λh1=>?_) λh1=>?_
 ·refine Sa ?_;refine QW.body1 rfl rfl ⟨?_,hx⟩;have h1:AY ⟨sh,c,r,ac,ar⟩=false:=by simpa using h1
  simp[Ct,h1]
 have h1:AY ⟨sh,c,r,ac,ar⟩=true:=by simpa using h1
 have hm:0≤c∧c≤701∧0≤r∧r≤998:=by
  simp only[AY,Abf,decide_eq_true_eq] at h1;exact⟨h1.1.1.1.2,h1.1.1.2,h1.1.2,h1.2⟩
 have a3:=Iv c;have a4:=Lib.itoa_length_le (r+1) Aez Aez;rw[Ct,if_pos h1];clear h1
 match sh,hs with
 | [],_=>
  cases ac<;>cases ar
  all_goals
   refine Sa ?_;refine Ax rfl rfl (Oz c Aez Aez w2) ?_;rintro v w3 ⟨rfl,a0⟩;replace hB:=hB.ext a0;replace hx:=hx.trans a0;refine Sa ?_;refine Ax rfl rfl (H9 (r+1) Aez Aez w3) ?_;rintro v w4 ⟨rfl,a1⟩;replace hx:=hx.trans a1;refine Sa ?_;refine QW.body1 rfl rfl ⟨?_,hx⟩
   simp[BN,D5]
 | a::l,hs=>
  simp at hs;cases ac<;>cases ar
  all_goals
   refine Sa ?_;refine Ax rfl rfl (Oz c Aez Aez w2) ?_;rintro v w3 ⟨rfl,a0⟩;replace hB:=hB.ext a0;replace hx:=hx.trans a0;refine Sa ?_;refine Ax rfl rfl (H9 (r+1) Aez Aez w3) ?_;rintro v w4 ⟨rfl,a1⟩;replace hx:=hx.trans a1;refine Sa ?_;refine QW.body1 rfl rfl ⟨?_,hx⟩;simp[BN,D5]
def A1(acc:Int)(l:List UInt8):Int:=l.foldl (λa c=>10*a+((c.toNat:Int) - 48)) acc
theorem FP(acc:Int)(l:List UInt8)(c:UInt8):A1 acc (l++[c])=10*A1 acc l+((c.toNat:Int) - 48):=by simp[A1]
def Aa6(n:Nat):Bool:=decide (A1 0 (d3 n)=(n:Int))
theorem XG:∀n:Fin 1000,Aa6 n.val=true:=by decide +kernel
theorem Y9{z:Int}(h0:0≤z)(h1:z<1000):A1 0 (Lib.itoa z)=z:=by
 have:=XG ⟨z.toNat,by omega⟩;rw[Vq h0 h1];simp only[Aa6,decide_eq_true_eq] at this;rw[this];omega
theorem Kb{l:List UInt8}{k:Nat}(h:k<l.length):l.take (k+1)=l.take k++[l[k]]:=by
 rw[List.take_succ_eq_append_getElem h]
theorem FM(l:List UInt8)(a k:Nat):Ab (l.drop a) k=Ab l (a+k):=by
 unfold Ab;rw[AaE,AaE,AcH]
theorem Mt{s:List UInt8}(h:Bd s=false):F9 s=.tuple #[JU ID,.bool false]:=by rw[F9,h];rfl
def J5(s:List UInt8):C3:=⟨CU s,(AX (Aj Bb (Cl s))).getD 0,A1 0 ((Cy s).take 4) - 1,Lib.hasPrefix (CG s) [36],Lib.hasPrefix (Ds s) [36]⟩
theorem Z0{s:List UInt8}{r:C3}(h:AY r=true)(e:BN r=s):J5 s=r∧(AX (Aj Bb (Cl s))).isSome=true:=by
 obtain⟨q1,q2,q3,q4,q5,q6,q7,q8,_⟩:=VA h;obtain⟨_,c0,c1,r0,r1⟩:=DE h;obtain⟨_,_,a0⟩:=Nu c0 c1;obtain⟨_,_,hl,_⟩:=G3 (z:=r.row+1) Aez Aez;rw[e] at q1 q2 q4 q6 q8;unfold J5;rw[q1,q4,q5,a0,q8,q2,q3,q6,q7,AcC (by rw[EC];omega),EC,Y9 Aez Aez];refine⟨?_,rfl⟩;rw[show r.row+1 - 1=r.row by omega];rfl
theorem ZC{s:List UInt8}(hl:0<s.length)(h:Ab s 0=33):Bd s=false:=by
 refine Q9 λr hr e=>?_;have hc:=L0 (s:=s) (k:=0) hl h (λj hj=>by omega);have a0:CU s=[]:=by unfold CU;rw[hc];rfl
 have a1:r.sheet=[]:=by
  have:=(VA hr).1;rw[e,a0] at this;exact this.symm
 rw[Tt,if_pos a1,Acb] at e;subst e;obtain⟨c,hm,e⟩:=DT hl;exact Abv hr c hm (by rw[←e];exact h)
theorem WG{s:List UInt8}{j:Nat}(hl:j<(Cy s).length)(h:Aq (Ab (Cy s) j)=false):Bd s=false:=by
 refine Q9 λr hr e=>?_;obtain⟨_,_,_,_,_,_,_,q8,_⟩:=VA hr;obtain⟨_,c0,c1,r0,r1⟩:=DE hr;obtain⟨hd,_,_,_⟩:=G3 (z:=r.row+1) Aez Aez;rw[e] at q8;obtain⟨c,hm,e2⟩:=DT hl;rw[q8] at hm;rw[e2,hd c hm] at h;cases h
theorem Hu(l:List UInt8)(h:∀j,j<l.length→Aq (Ab l j)=true):0≤A1 0 l∧A1 0 l<10 ^ l.length:=by
 have key:∀(n:Nat) (l:List UInt8),l.length=n→(∀j,j<l.length→Aq (Ab l j)=true)→0≤A1 0 l∧A1 0 l<10 ^ n:=by
  intro n
  induction n with
  | zero=>
   intro l hl _;have:l=[]:=AbX hl
   subst this;simp[A1]
  | succ n ih=>
   intro l hl h;have a0:l≠[]:=by intro h0;rw[h0] at hl;simp at hl
   have e:l=l.dropLast++[l.getLast a0]:=(Adm a0).symm;have a1:l.dropLast.length=n:=Ae0
   have h1:=ih l.dropLast a1 (λj hj=>by
    have:=h j Aez;rw[e,BE hj] at this;exact this)
   have h2:Aq (((l.getLast a0).toNat:Nat):Int)=true:=by
    have:=h n Aez;have e3:Ab l n=((l.getLast a0).toNat:Int):=by
     rw[BA Aez]
     congr 2
     rw[List.getLast_eq_getElem]
     congr 1
     omega
    rw[e3] at this;exact this
   have h3:A1 0 l=10*A1 0 l.dropLast+(((l.getLast a0).toNat:Int) - 48):=by
    conv=>lhs;rw[e]
    exact FP _ _ _
   simp only[Aq,Abf,decide_eq_true_eq] at h2;rw[h3,Int.pow_succ];constructor<;>omega
 exact key l.length l rfl h
theorem Ip(s:List UInt8)(hs:s.length≤1000)(w:World):AF prog 163 [Am s] w (λv w'=>v=F9 s∧Ae w w'):=by
 refine AQ func163 ntmps163 ?_;refine Sa ?_;refine BX λR w1 b4 hx hR=>?_;refine Sa ?_;refine BX λC w2 b5 ae hC=>?_;have b6:R<C:=by have:=hR.lt;omega
 replace hR:Blk w2 R (AZ ID) 113:=hR.ext ae;replace hC:Blk w2 C [Am [],.int .i64 0,.int .i64 0,.bool false,.bool false] 113:=hC;replace hx:=hx.trans ae;refine Sl ?_;apply LW.nil;apply QW.then_n;apply CW.seq;apply CW.region;refine Sl ?_;apply LW.nil;apply QW.then_n;apply CW.seq;refine CW.cut (ι:=Nat) (λa w'=>Ae w w'∧Blk w' R (AZ ID) 113∧Blk w' C [Am (CU s),.int .i64 0,.int .i64 0,.bool false,.bool false] 113∧a≤s.length∧s.drop a=CG s)
  (λa=>[(0,Am s),(2,.pointer (some ⟨R,0,none⟩)),(3,.bool false),(4,.pointer (some ⟨C,0,none⟩)),(5,.int .i64 a)]) ?_ ?_
 ·refine Sa ?_;refine CW.loop (ι:=Nat) (λk w'=>k≤s.length∧Ae w w'∧Blk w' R (AZ ID) 113∧Blk w' C [Am [],.int .i64 0,.int .i64 0,.bool false,.bool false] 113∧∀j,j<k→Ab s j≠33)
   (λk=>[(0,Am s),(2,.pointer (some ⟨R,0,none⟩)),(3,.bool false),(4,.pointer (some ⟨C,0,none⟩)),(5,.int .i64 0),(6,.int .i64 k)]) (λk=>s.length - k) 0 ⟨by omega,hx,hR,hC,by omega⟩ DL ?_
  clear hx hR hC ae;rintro k w3 ⟨hk,hx,hR,hC,a0⟩;refine Sa ?_;refine Av (λh1=>?_) λh1=>?_
  ·have h1:k<s.length:=by simpa using h1
   refine Sa ?_;refine Av (λh2=>?_) λh2=>?_
   ·have h2:Ab s k=33:=by simpa using h2
    have aa:=L0 h1 h2 a0;refine Sa ?_;refine LW.slice_str (i:=0) (j:=k) rfl rfl rfl rfl ⟨_,_,rfl,rfl⟩ Aez hk rfl ?_;refine Sa ?_;refine BO λw4 ab ah=>?_;replace hR:=hR.chg ab Ae0;replace hx:=hx.step ab Ae0;refine Sa ?_;refine Av (λh3=>?_) λh3=>?_
    ·have h3:k=0:=by simpa using h3
     subst h3;refine Sa ?_;refine AR λw5 av aw=>?_;refine Sa ?_;refine QW.body_ct rfl rfl aw rfl rfl rfl rfl ⟨?_,hx.step av Ae0⟩;rw[Mt (ZC h1 h2)];rfl
    ·refine Sa ?_;refine QW.head (k+1) ⟨hx,hR,?_,by omega,?_⟩ Cu
     ·have e:CU s=cut s 0 k:=by unfold CU;rw[aa,Nx];rfl
      rw[e];exact ah
     ·unfold CG;rw[aa];rfl
   ·have h2:Ab s k≠33:=by simpa using h2
    refine Sa ?_;refine QW.again (k+1) ⟨by omega,hx,hR,hC,?_⟩ DL Aez;intro j hj;by_cases ac:j=k
    ·subst ac;exact h2
    ·exact a0 j Aez
  ·have h1:k=s.length:=by simp at h1;omega
   subst h1;have aa:=Rw a0;refine Sa ?_;refine QW.head 0 ⟨hx,hR,?_,by omega,?_⟩ Cu
   ·have e:CU s=[]:=by unfold CU;rw[aa];rfl
    rw[e];exact hC
   ·unfold CG;rw[aa];rfl
 clear hx hR hC ae;rintro a w3 ⟨hx,hR,hC,ha,a3⟩;have ax:(CG s).length=s.length - a:=by rw[←a3];simp
 apply CW.seq;refine CW.cut (ι:=Nat) (λa w'=>Ae w w'∧Blk w' R (AZ ID) 113∧Blk w' C [Am (CU s),.int .i64 0,.int .i64 0,.bool (Lib.hasPrefix (CG s) [36]),.bool false] 113∧a≤s.length∧s.drop a=Cl s)
  (λa=>[(0,Am s),(2,.pointer (some ⟨R,0,none⟩)),(3,.bool false),(4,.pointer (some ⟨C,0,none⟩)),(5,.int .i64 a)]) ?_ ?_
 ·refine Sa ?_;refine B6 (λh1=>?_) λh1=>?_
  ·have h1:a<s.length:=by simpa using h1
   refine Sa ?_;refine Av (λh2=>?_) λh2=>?_
   ·have h2:Ab s a=36:=by simpa using h2
    have e1:0<(CG s).length∧Ab (CG s) 0=36:=⟨by omega,by rw[←a3,FM];exact h2⟩;refine Sa ?_;refine BO λw4 ab ah=>?_;replace hR:=hR.chg ab Ae0;replace hx:=hx.step ab Ae0;refine Sa ?_;refine QW.head (a+1) ⟨hx,hR,?_,by omega,?_⟩ Cu
    ·rw[KF,decide_eq_true e1];exact ah
    ·rw[Cl,IP,if_pos e1,←a3,Ac6]
   ·have h2:Ab s a≠36:=by simpa using h2
    have e1:¬(0<(CG s).length∧Ab (CG s) 0=36):=by
     rintro⟨_,h⟩;rw[←a3,FM] at h;exact h2 h
    refine Sa ?_;refine QW.head a ⟨hx,hR,?_,ha,?_⟩ Cu
    ·rw[KF,decide_eq_false e1];exact hC
    ·rw[Cl,IP,if_neg e1,a3]
  ·have h1:a=s.length:=by simp at h1;omega
   have e1:¬(0<(CG s).length∧Ab (CG s) 0=36):=by
    rintro⟨h,_⟩;omega
   refine Sa ?_;refine QW.head a ⟨hx,hR,?_,ha,?_⟩ Cu
   ·rw[KF,decide_eq_false e1];exact hC
   ·rw[Cl,IP,if_neg e1,a3]
 clear hx hR hC ha a3 ax a;rintro a w4 ⟨hx,hR,hC,ha,a3⟩;apply CW.seq;apply CW.region;refine Sl ?_;apply LW.nil;apply QW.then_n;apply CW.seq;refine CW.cut (ι:=Nat) (λk w'=>Ae w w'∧Blk w' R (AZ ID) 113∧Blk w' C [Am (CU s),.int .i64 0,.int .i64 0,.bool (Lib.hasPrefix (CG s) [36]),.bool false] 113∧a≤k∧k≤s.length∧cut s a k=Aj Bb (Cl s)∧s.drop k=Ds s)
  (λk=>[(0,Am s),(2,.pointer (some ⟨R,0,none⟩)),(3,.bool false),(4,.pointer (some ⟨C,0,none⟩)),(5,.int .i64 a),(7,.int .i64 k)]) ?_ ?_
 ·refine Sa ?_;refine CW.loop (ι:=Nat) (λk w'=>a≤k∧k≤s.length∧Ae w w'∧Blk w' R (AZ ID) 113∧Blk w' C [Am (CU s),.int .i64 0,.int .i64 0,.bool (Lib.hasPrefix (CG s) [36]),.bool false] 113∧∀j,j<k - a→Bb (Ab (Cl s) j)=true)
   (λk=>[(0,Am s),(2,.pointer (some ⟨R,0,none⟩)),(3,.bool false),(4,.pointer (some ⟨C,0,none⟩)),(5,.int .i64 a),(7,.int .i64 k)]) (λk=>s.length - k) a ⟨by omega,ha,hx,hR,hC,by omega⟩ DL ?_
  clear hx hR hC;rintro k w5 ⟨ad,hk,hx,hR,hC,a0⟩;have b7:(Cl s).length=s.length - a:=by rw[←a3];simp
  have an:Ab (Cl s) (k - a)=Ab s k:=by
   rw[←a3,FM];congr 1;omega
  have fin:k=s.length∨Bb (Ab s k)=false→cut s a k=Aj Bb (Cl s)∧s.drop k=Ds s:=λh=>by
   have sp:=KT Bb (Cl s) (k - a) Aez a0 (by
    rcases h with h | h
    ·exact Or.inl Aez
    ·exact Or.inr (by rw[an];exact h))
   refine⟨?_,?_⟩
   ·unfold cut;rw[a3];exact sp.1
   ·have:s.drop k=(s.drop a).drop (k - a):=by rw[Ac6];congr 1;omega
    rw[this,a3];exact sp.2
  refine Sa ?_;refine B6 (λh1=>?_) λh1=>?_
  ·have h1:k<s.length:=by simpa using h1
   refine Sa ?_;refine Ax rfl rfl (Dh _ _) ?_;rintro v w6 ⟨rfl,a7⟩;replace hR:=hR.ext a7;replace hC:=hC.ext a7;replace hx:=hx.trans a7;refine Sa ?_;refine Av (λh2=>?_) λh2=>?_
   ·have h2:Bb (Ab s k)=true:=h2;refine Sa ?_;refine QW.again (k+1) ⟨by omega,by omega,hx,hR,hC,?_⟩ DL Aez;intro j hj;by_cases ac:j=k - a
    ·subst ac;rw[an];exact h2
    ·exact a0 j Aez
   ·have h2:Bb (Ab s k)=false:=h2;refine Sa ?_;exact QW.head k ⟨hx,hR,hC,ad,hk,fin (Or.inr h2)⟩ DL
  ·have h1:k=s.length:=by simp at h1;omega
   refine Sa ?_;exact QW.head k ⟨hx,hR,hC,ad,hk,fin (Or.inl h1)⟩ DL
 clear hx hR hC;rintro k w5 ⟨hx,hR,hC,ad,hk,ai,a4⟩;have b8:(Aj Bb (Cl s)).length≤1000:=by rw[←ai];simp[cut];omega
 have b9:=J6 (Aj Bb (Cl s));have ay:(Ds s).length=s.length - k:=by rw[←a4];simp
 apply CW.seq;apply CW.region;refine Sl ?_;refine LW.slice_str (i:=a) (j:=k) rfl rfl rfl ⟨_,_,rfl,rfl⟩ ⟨_,_,rfl,rfl⟩ ad hk rfl ?_;refine Sl ?_;rw[ai];refine Ax rfl rfl (Q8 _ Aez w5) ?_;rintro v w6 ⟨rfl,a7⟩;rw[KI];replace hR:=hR.ext a7;replace hC:=hC.ext a7;replace hx:=hx.trans a7;refine Sl ?_;apply LW.nil;apply QW.then_n;apply CW.seq;refine CW.cut (ι:=Nat) (λk w'=>Ae w w'∧Blk w' R (AZ ID) 113∧Blk w' C [Am (CU s),.int .i64 0,.int .i64 0,.bool (Lib.hasPrefix (CG s) [36]),.bool (Lib.hasPrefix (Ds s) [36])] 113∧k≤s.length∧s.drop k=Cy s)
  (λk=>[(0,Am s),(2,.pointer (some ⟨R,0,none⟩)),(3,.bool false),(4,.pointer (some ⟨C,0,none⟩)),(7,.int .i64 k),(8,.int .i64 ((AX (Aj Bb (Cl s))).getD 0)),(9,.bool (AX (Aj Bb (Cl s))).isSome)]) ?_ ?_
 ·refine Sa ?_;refine B6 (λh1=>?_) λh1=>?_
  ·have h1:k<s.length:=by simpa using h1
   refine Sa ?_;refine Av (λh2=>?_) λh2=>?_
   ·have h2:Ab s k=36:=by simpa using h2
    have e1:0<(Ds s).length∧Ab (Ds s) 0=36:=⟨by omega,by rw[←a4,FM];exact h2⟩;refine Sa ?_;refine BO λw7 ao az=>?_;replace hR:=hR.chg ao Ae0;replace hx:=hx.step ao Ae0;refine Sa ?_;refine QW.head (k+1) ⟨hx,hR,?_,by omega,?_⟩ Nd
    ·rw[KF (Ds s),decide_eq_true e1];exact az
    ·rw[Cy,IP,if_pos e1,←a4,Ac6]
   ·have h2:Ab s k≠36:=by simpa using h2
    have e1:¬(0<(Ds s).length∧Ab (Ds s) 0=36):=by
     rintro⟨_,h⟩;rw[←a4,FM] at h;exact h2 h
    refine Sa ?_;refine QW.head k ⟨hx,hR,?_,hk,?_⟩ Nd
    ·rw[KF (Ds s),decide_eq_false e1];exact hC
    ·rw[Cy,IP,if_neg e1,a4]
  ·have h1:k=s.length:=by simp at h1;omega
   have e1:¬(0<(Ds s).length∧Ab (Ds s) 0=36):=by
    rintro⟨h,_⟩;omega
   refine Sa ?_;refine QW.head k ⟨hx,hR,?_,hk,?_⟩ Nd
   ·rw[KF (Ds s),decide_eq_false e1];exact hC
   ·rw[Cy,IP,if_neg e1,a4]
 clear hx hR hC ad hk ai a4 ay a7 k ha a3 a;rintro k w7 ⟨hx,hR,hC,hk,a4⟩;have b0:(Cy s).length=s.length - k:=by rw[←a4];simp
 apply CW.seq;apply CW.region;refine Sl ?_;apply LW.nil;apply QW.then_n;apply CW.seq;apply CW.seq;apply CW.region;refine Sl ?_;apply LW.nil;apply QW.then_n;refine CW.cut (ι:=Unit) (λ_ w'=>Ae w w'∧Blk w' R (AZ ID) 113∧Blk w' C [Am (CU s),.int .i64 0,.int .i64 0,.bool (Lib.hasPrefix (CG s) [36]),.bool (Lib.hasPrefix (Ds s) [36])] 113∧0≤A1 0 ((Cy s).take 4)∧A1 0 ((Cy s).take 4)≤10000)
  (λ_=>[(0,Am s),(2,.pointer (some ⟨R,0,none⟩)),(3,.bool false),(4,.pointer (some ⟨C,0,none⟩)),(8,.int .i64 ((AX (Aj Bb (Cl s))).getD 0)),(9,.bool (AX (Aj Bb (Cl s))).isSome),(10,.int .i64 (A1 0 ((Cy s).take 4)))]) ?_ ?_
 ·refine Sa ?_;refine CW.loop (ι:=Nat) (λi w'=>i≤4∧k+i≤s.length∧Ae w w'∧Blk w' R (AZ ID) 113∧Blk w' C [Am (CU s),.int .i64 0,.int .i64 0,.bool (Lib.hasPrefix (CG s) [36]),.bool (Lib.hasPrefix (Ds s) [36])] 113∧∀j,j<i→Aq (Ab (Cy s) j)=true)
   (λi=>[(0,Am s),(2,.pointer (some ⟨R,0,none⟩)),(3,.bool false),(4,.pointer (some ⟨C,0,none⟩)),(7,.int .i64 k),(8,.int .i64 ((AX (Aj Bb (Cl s))).getD 0)),(9,.bool (AX (Aj Bb (Cl s))).isSome),(10,.int .i64 (A1 0 ((Cy s).take i))),(11,.int .i64 ((k+i:Nat):Int))]) (λi=>4 - i) 0 ⟨by omega,hk,hx,hR,hC,by omega⟩ AbI ?_
  clear hx hR hC;rintro i w8 ⟨hi,ba,hx,hR,hC,a0⟩;have af:=Hu ((Cy s).take i) (λj hj=>by
   have ap:j<i:=by simp at hj;omega
   have bb:j<(Cy s).length:=Aez
   have:=a0 j ap;have e:Ab ((Cy s).take i) j=Ab (Cy s) j:=by
    unfold Ab;rw[AaE,AaE,Adi,if_pos ap]
   rw[e];exact this)
  have b1:((Cy s).take i).length=i:=Ae0
  rw[b1] at af;have bc:(10:Int) ^ i≤10000:=by
   have:i=0∨i=1∨i=2∨i=3∨i=4:=Aez
   rcases this with rfl | rfl | rfl | rfl | rfl<;>decide
  have fin:(k+i=s.length∨i=4)→(Cy s).take i=(Cy s).take 4:=λh=>by
   rcases h with h | h
   ·rw[AcC Aez,AcC Aez]
   ·rw[h]
  refine Sa ?_;refine B6 (λh1=>?_) λh1=>?_
  ·have h1:k+i<s.length:=by simp at h1;omega
   refine Sa ?_;refine Av (λh2=>?_) λh2=>?_
   ·have h2:i<4:=by simp at h2;omega
    refine Sa ?_;refine Ax rfl rfl (Fb _ _) ?_;rintro v w9 ⟨rfl,aj⟩;replace hR:=hR.ext aj;replace hC:=hC.ext aj;replace hx:=hx.trans aj;have ag:Ab (Cy s) i=Ab s (k+i):=by rw[←a4,FM]
    have bd:=CQ s (k+i);refine Sa ?_;refine Av (λh3=>?_) λh3=>?_
    ·have h3:Aq (Ab (Cy s) i)=false:=by
      have h3:(!Aq (Ab s (k+i)))=true:=h3;rw[ag];simpa using h3
     refine Sa ?_;refine AR λak a6 al=>?_;refine Sa ?_;refine QW.body_ct rfl rfl al rfl rfl rfl rfl ⟨?_,hx.step a6 Ae0⟩;rw[Mt (WG Aez h3)];rfl
    ·have h3:Aq (Ab (Cy s) i)=true:=by
      have h3:(!Aq (Ab s (k+i)))=false:=h3;rw[ag];simpa using h3
     have h4:48≤Ab s (k+i)∧Ab s (k+i)≤57:=by rw[ag] at h3;simpa[Aq] using h3
     have e4:Ab s ((k+i:Nat):Int).toNat=Ab s (k+i):=rfl;refine Sa ?_;have aq:i<(Cy s).length:=Aez
     have e5:A1 0 ((Cy s).take (i+1))=10*A1 0 ((Cy s).take i)+(Ab s (k+i) - 48):=by
      rw[Kb aq,FP,←BA aq,ag]
     refine QW.again (i+1) ⟨by omega,by omega,hx,hR,hC,?_⟩ (Ai.cons rfl (Ai.cons rfl (Ai.cons rfl (Ai.cons rfl (Ai.cons rfl (Ai.cons rfl (Ai.cons rfl (Ai.cons (by rw[e5];exact rfl) (Ai.cons rfl Ai.nil))))))))) Aez;intro j hj;by_cases ac:j=i
     ·subst ac;exact h3
     ·exact a0 j Aez
   ·have h2:i=4:=by simp at h2;omega
    subst h2;refine Sa ?_;exact QW.head () ⟨hx,hR,hC,af.1,by omega⟩ Nd
  ·have h1:k+i=s.length:=by simp at h1;omega
   have e6:=fin (Or.inl h1);rw[e6] at af;refine Sa ?_;refine QW.head () ⟨hx,hR,hC,af.1,by omega⟩ (Ai.cons rfl (Ai.cons rfl (Ai.cons rfl (Ai.cons rfl (Ai.cons rfl (Ai.cons rfl (Ai.cons (by rw[←e6];exact rfl) Ai.nil)))))))
 clear hx hR hC hk a4 b0 k;rintro _ w8 ⟨hx,hR,hC,be,bf⟩;have ar:(CU s).length≤1000:=by
  unfold CU;split
  ·exact Acr (Rv s [33]) hs
  ·simp
 refine Sa ?_;refine BO λw9 au hC=>?_;replace hR:=hR.chg au Ae0;replace hx:=hx.step au Ae0;refine Sa ?_;refine BO λak a6 hC=>?_;replace hR:=hR.chg a6 Ae0;replace hx:=hx.step a6 Ae0;replace hC:Blk ak C (AZ (J5 s)) 113:=hC;have bad:(AY (J5 s)=false∨Ct (J5 s)≠s∨(AX (Aj Bb (Cl s))).isSome=false)→Bd s=false:=λh=>Q9 λr hr e=>by
  obtain⟨e1,e2⟩:=Z0 hr e;rcases h with h | h | h
  ·rw[e1,hr] at h;cases h
  ·rw[e1,Ct,if_pos hr] at h;exact h e
  ·rw[e2] at h;cases h
 refine Sa ?_
 cases b2:(AX (Aj Bb (Cl s))).isSome with
 | false=>
  have a5:=bad (Or.inr (Or.inr b2));refine Sa ?_;refine AR λam a1 a2=>?_;refine Sa ?_;refine QW.body_ct rfl rfl a2 rfl rfl rfl rfl ⟨?_,hx.step a1 Ae0⟩;rw[Mt a5]
  rfl
 | true=>
  refine Sa ?_;refine Ax rfl rfl (Fv (J5 s) (Acr ar Aez) ak) ?_;rintro v b3 ⟨rfl,a8⟩;replace hR:=hR.ext a8;replace hC:=hC.ext a8;replace hx:=hx.trans a8
  cases hm:AY (J5 s) with
  | false=>
   have a5:=bad (Or.inl hm);refine Sa ?_;refine AR λam a1 a2=>?_;refine Sa ?_;refine QW.body_ct rfl rfl a2 rfl rfl rfl rfl ⟨?_,hx.step a1 Ae0⟩;rw[Mt a5]
   rfl
  | true=>
   refine Sa ?_;refine Ax rfl rfl (Gy (J5 s) ar b3) ?_;rintro v bg ⟨rfl,a9⟩;replace hR:=hR.ext a9;replace hC:=hC.ext a9;replace hx:=hx.trans a9;refine Sa ?_;refine Av (λh1=>?_) λh1=>?_
   ·have h1:Ct (J5 s)≠s:=by simpa using h1
    have a5:=bad (Or.inr (Or.inl h1));refine Sa ?_;refine AR λam a1 a2=>?_;refine Sa ?_;refine QW.body_ct rfl rfl a2 rfl rfl rfl rfl ⟨?_,hx.step a1 Ae0⟩;rw[Mt a5];rfl
   ·have h1:Ct (J5 s)=s:=by simpa using h1
    refine Sa ?_;refine AR λam a1 a2=>?_;refine Sa ?_;refine QW.body_ct rfl rfl a2 rfl rfl rfl rfl ⟨?_,hx.step a1 Ae0⟩;rw[Ct,if_pos hm] at h1;obtain⟨e1,e2⟩:=P3 hm;rw[h1] at e1 e2;rw[F9,if_pos e1,e2];rfl
def GM(c:Int):Bool:=Bb c||(decide (97≤c)&&decide (c≤122))||decide (c=36)
def DQ(c:Int):Bool:=GM c||Aq c||decide (c=33)
def FI(c:Int):Bool:=decide (c=32)
def X4(c:Int):Bool:=Bb c||Aq c
def KY(l:List UInt8):Bool:=decide (l≠[])&&decide (l.length≤12)&&Bb (Ab l 0)&&decide (∀j,j<l.length→X4 (Ab l j)=true)
theorem Vk:KY []=false:=rfl
theorem R5{l:List UInt8}(h:12<l.length):KY l=false:=by simp[KY];intros;omega
theorem Pj{l:List UInt8}(h:Bb (Ab l 0)=false):KY l=false:=by simp[KY,h]
theorem Yc{l:List UInt8}{k:Nat}(hk:k<l.length)(h:X4 (Ab l k)=false):KY l=false:=by
 simp only[KY,AdR,decide_eq_false_iff_not];exact Or.inr λhh=>by rw[hh k hk] at h;cases h
theorem R6{l:List UInt8}(h0:l≠[])(h1:l.length≤12)(h2:Bb (Ab l 0)=true)(h3:∀j,j<l.length→X4 (Ab l j)=true):KY l=true:=by
 simp[KY,h0,h1,h2];exact h3
structure As where
 kind:Int
 text:List UInt8
 num:Int
 ref:C3
 at_:Int
deriving DecidableEq
def Bu(x:As):List Value:=[.int .i64 x.kind,Am x.text,.int .i64 x.num,Am x.ref.sheet,.int .i64 x.ref.col,.int .i64 x.ref.row,.bool x.ref.ac,.bool x.ref.ar,.int .i64 x.at_]
def A6:C3:=⟨[],0,0,false,false⟩
theorem Dz(l:List UInt8)(a k:Nat):Ab (l.drop a) k=Ab l (a+k):=by
 simp[Ab]
theorem MJ{s:List UInt8}{a k:Nat}:cut s a k=(s.take k).drop a:=by rw[cut,Aew]
theorem H6(p:Int→Bool)(s:List UInt8)(a k:Nat)(ha:a≤k)(hk:k≤s.length)(hall:∀j,a≤j→j<k→p (Ab s j)=true)(h:k=s.length∨p (Ab s k)=false) :
  (s.take k).drop a=Aj p (s.drop a)∧k=a+(Aj p (s.drop a)).length:=by
 have:=KT p (s.drop a) (k - a) Ae0 (λj hj=>by rw[Dz];exact hall _ Aez Aez) (by
  rcases h with h | h
  ·exact Or.inl Ae0
  ·exact Or.inr (by rw[Dz,show a+(k - a)=k by omega];exact h))
 have e:(s.take k).drop a=(s.drop a).take (k - a):=by rw[Aew]
 have h2:=congrArg List.length this.1;rw[e,this.1];refine⟨rfl,?_⟩;rw[←h2];simp;omega
def LF(l:List UInt8):Option (As×Nat):=
 let sp:=Aj Aq l
 match Lib.atoiAll sp with
 | .ok z=>if Ab sp 0≠48∨sp.length=1 then some (⟨1,[],z,A6,0⟩,sp.length) else none
 | _=>none
def Es(l:List UInt8):Option (As×Nat):=
 let sp:=Aj DQ l
 if Bd sp then some (⟨4,[],0,D0 sp,0⟩,sp.length) else if KY sp then some (⟨3,sp,0,A6,0⟩,sp.length) else none
def Eh:List UInt8:=[35,82,69,70,33]
def Bn:List (List UInt8):=[[60,62],[60,61],[62,61],[43],[45],[42],[47],[38],[61],[60],[62],[40],[41],[44],[58]]
def Fy(l:List UInt8):Option (As×Nat):=
 if Lib.hasPrefix l Eh then some (⟨6,[],0,A6,0⟩,5) else(Bn.find? λs=>Lib.hasPrefix l s).map λs=>(⟨5,s,0,A6,0⟩,s.length)
def Bc:List UInt8→Option (List UInt8×Nat)
 | []=>none
 | [c]=>if c=34 then some ([],1) else none
 | c::d::r=>
  if c=34 then(if d=34 then(Bc r).map λx=>(34::x.1,x.2+2) else some ([],1))
  else if c<32 then none else(Bc (d::r)).map λx=>(c::x.1,x.2+1)
def EE(l:List UInt8):Option (As×Nat):=(Bc (l.drop 1)).map λx=>(⟨2,x.1,0,A6,0⟩,x.2+1)
def Cz(l:List UInt8):Option (As×Nat):=
 if Aq (Ab l 0) then LF l else if Ab l 0=34 then EE l else if GM (Ab l 0) then Es l else Fy l
theorem V5{l:List UInt8}{z:Int}(h:Lib.atoiAll (Aj Aq l)=.ok z):LF l=if Ab (Aj Aq l) 0≠48∨(Aj Aq l).length=1 then some (⟨1,[],z,A6,0⟩,(Aj Aq l).length) else none:=by
 simp only[LF,h]
theorem Ss{l:List UInt8}(h:∀z,Lib.atoiAll (Aj Aq l)≠.ok z):LF l=none:=by
 unfold LF
 cases e:Lib.atoiAll (Aj Aq l) with
 | ok z=>exact absurd e (h z)
 | _=>simp only[e]
theorem N3{α:Type}(p:α→Bool)(d:α):∀(l:List α) (k:Nat),k<l.length→(∀j,j<k→p (l.getD j d)=false)→p (l.getD k d)=true→l.find? p=some (l.getD k d)
 | [],k,hk,_,_=>by simp at hk
 | x::r,0,_,_,h=>by
  have h:p x=true:=h
  simp[List.find?,h]
 | x::r,k+1,hk,hn,h=>by
  have h0:p x=false:=hn 0 Aez;have ih:=N3 p d r k (by simpa using hk) (λj hj=>hn (j+1) Aez) h;simp only[List.find?,h0];exact ih
theorem Pg{α:Type}(p:α→Bool)(d:α):∀(l:List α),(∀j,j<l.length→p (l.getD j d)=false)→l.find? p=none
 | [],_=>rfl
 | x::r,hn=>by
  have h0:p x=false:=hn 0 Ae7;simp only[List.find?,h0];exact Pg p d r (λj hj=>hn (j+1) Ae0)
theorem LL{s p:List UInt8}(h:Lib.hasPrefix s p=true):p.length≤s.length:=(AdD.1 h).length_le
theorem IL{p:Int→Bool}{l:List UInt8}(hl:0<l.length)(h:p (Ab l 0)=true):0<(Aj p l).length∧Ab (Aj p l) 0=Ab l 0:=by
 cases l with
 | nil=>simp at hl
 | cons c r=>
  have hc:p (c.toNat:Int)=true:=h;simp[Aj,hc];rfl
theorem EB(p:Int→Bool)(l:List UInt8):(Aj p l).length≤l.length:=(List.takeWhile_prefix _).length_le
theorem G1{s:List UInt8}{i:Nat}(h:i<s.length):∃c,s.drop i=c::s.drop (i+1)∧Ab s i=(c.toNat:Int):=
 ⟨s[i],AcV h,BA h⟩
theorem Zi{c:UInt8}(h:(c.toNat:Int)=34):c=34:=AdI.1 (by simpa using(by omega:c.toNat=34))
theorem QJ{c:UInt8}(h:(c.toNat:Int)≠34):c≠34:=by
 rintro rfl;exact h rfl
theorem Aaq{c:UInt8}(h:(c.toNat:Int)<32):c<32:=Ad9.2 (by simpa using(by omega:c.toNat<32))
theorem Aap{c:UInt8}(h:¬(c.toNat:Int)<32):¬c<32:=λhh=>h (by have:=Ad9.1 hh;simp at this;omega)
theorem SW{s:List UInt8}{i:Nat}(h:s.length≤i):Bc (s.drop i)=none:=by
 rw[AcD h];rfl
theorem SZ{s:List UInt8}{i:Nat}(h:i+1<s.length)(h1:Ab s i=34)(h2:Ab s (i+1)=34):Bc (s.drop i)=(Bc (s.drop (i+2))).map λx=>(34::x.1,x.2+2):=by
 obtain⟨c,e,hc⟩:=G1 (show i<s.length by omega);obtain⟨d,e2,hd⟩:=G1 h;rw[e,e2];obtain rfl:=Zi (hc.symm.trans h1);obtain rfl:=Zi (hd.symm.trans h2);simp[Bc]
theorem HU{s:List UInt8}{i:Nat}(h:i<s.length)(h1:Ab s i=34)(h2:i+1<s.length→Ab s (i+1)≠34):Bc (s.drop i)=some ([],1):=by
 obtain⟨c,e,hc⟩:=G1 h;rw[e];obtain rfl:=Zi (hc.symm.trans h1);by_cases hl:i+1<s.length
 ·obtain⟨d,e2,hd⟩:=G1 hl;rw[e2];have:=QJ (c:=d) (by rw[←hd];exact h2 hl);simp[Bc,this]
 ·rw[AcD Aez];simp[Bc]
theorem SY{s:List UInt8}{i:Nat}(h:i<s.length)(h1:Ab s i<32):Bc (s.drop i)=none:=by
 obtain⟨c,e,hc⟩:=G1 h;rw[e];have h3:=Aaq (c:=c) (by rw[←hc];exact h1);have h4:=QJ (c:=c) Aez
 cases s.drop (i+1) with
 | nil=>simp[Bc,h4]
 | cons d r=>simp[Bc,h4,h3]
theorem VE{s:List UInt8}{i:Nat}(h:i<s.length)(h1:Ab s i≠34)(h2:¬Ab s i<32):Bc (s.drop i)=(Bc (s.drop (i+1))).map λx=>(ch (Ab s i)::x.1,x.2+1):=by
 obtain⟨c,e,hc⟩:=G1 h;rw[e];have h3:=Aap (c:=c) (by rw[←hc];exact h2);have h4:=QJ (c:=c) (by rw[←hc];exact h1);have h5:ch (Ab s i)=c:=by rw[hc];simp[ch]
 rw[h5]
 cases s.drop (i+1) with
 | nil=>simp[Bc,h4]
 | cons d r=>simp[Bc,h4,h3]
def ER(s:List UInt8)(a i:Nat)(out:List UInt8):Prop:=a≤i∧Bc (s.drop a)=(Bc (s.drop i)).map λx=>(out++x.1,x.2+(i - a))
theorem ER.start(s:List UInt8)(a:Nat):ER s a a []:=⟨Ab9 _,by simp⟩
theorem ER.go{s:List UInt8}{a i j:Nat}{out:List UInt8}{c:UInt8}(h:ER s a i out)(hj:i≤j)(e:Bc (s.drop i)=(Bc (s.drop j)).map λx=>(c::x.1,x.2+(j - i))):ER s a j (out++[c]):=by
 refine⟨by have:=h.1;omega,?_⟩;rw[h.2,e,Option.map_map]
 congr 1
 funext x
 have:=h.1;simp;omega
def Ge(l:List UInt8)(a:Nat):Option (List As):=
 match _h:l.drop (Aj FI l).length with
 | []=>some [⟨0,[],0,A6,((a+(Aj FI l).length:Nat):Int)⟩]
 | c::r=>match Cz (c::r) with
  | none=>none
  | some (t,k)=>if _hk:k=0 then none else(Ge ((c::r).drop k) (a+(Aj FI l).length+k)).map ({t with at_:=((a+(Aj FI l).length:Nat):Int)}::·)
 termination_by l.length
 decreasing_by
 have:=congrArg List.length _h;simp at this;simp;omega
def Ii(s:List UInt8):Option (List As):=Ge s 0
theorem Fm{l:List UInt8}{a:Nat}(h:l.drop (Aj FI l).length=[]):Ge l a=some [⟨0,[],0,A6,((a+(Aj FI l).length:Nat):Int)⟩]:=by
 rw[Ge]
 split
 ·rfl
 ·rename_i c r e;rw[h] at e;cases e
theorem Gf{l l':List UInt8}{a:Nat}(h:l.drop (Aj FI l).length=l')(hl:l'≠[])(h1:Cz l'=none):Ge l a=none:=by
 rw[Ge]
 split
 ·rename_i e;rw[h] at e;exact absurd e hl
 ·rename_i c r e;rw[h] at e;subst e;rw[h1]
theorem G5{l l':List UInt8}{a k:Nat}{t:As}(h:l.drop (Aj FI l).length=l')(hl:l'≠[])(h1:Cz l'=some (t,k))(hk:0<k) :
  Ge l a=(Ge (l'.drop k) (a+(Aj FI l).length+k)).map ({t with at_:=((a+(Aj FI l).length:Nat):Int)}::·):=by
 rw[Ge]
 split
 ·rename_i e;rw[h] at e;exact absurd e hl
 ·rename_i c r e;rw[h] at e;subst e;rw[h1];simp only;rw[dif_neg Aez]
theorem Oi{l:List UInt8}{t:As}{k:Nat}(h:LF l=some (t,k)):k=(Aj Aq l).length∧t.kind=1:=by
 unfold LF at h;simp only at h
 split at h
 ·split at h
  ·simp only[Aa3,Ach] at h;exact⟨h.2.symm,by rw[←h.1]⟩
  ·cases h
 ·cases h
theorem U4:Bd []=false:=by decide +kernel
theorem PF{l:List UInt8}{t:As}{k:Nat}(h:Es l=some (t,k)):k=(Aj DQ l).length∧0<k:=by
 unfold Es at h;simp only at h
 split at h
 ·rename_i hr;simp only[Aa3,Ach] at h;refine⟨h.2.symm,?_⟩;rw[←h.2]
  cases e:Aj DQ l with
  | nil=>rw[e,U4] at hr;cases hr
  | cons _ _=>simp
 ·split at h
  ·rename_i hr;simp only[Aa3,Ach] at h;refine⟨h.2.symm,?_⟩;rw[←h.2]
   cases e:Aj DQ l with
   | nil=>rw[e,Vk] at hr;cases hr
   | cons _ _=>simp
  ·cases h
theorem Xv{l:List UInt8}{t:As}{k:Nat}(h:EE l=some (t,k)):0<k:=by
 unfold EE at h
 cases e:Bc (l.drop 1) with
 | none=>rw[e] at h;cases h
 | some x=>
  rw[e] at h;simp only[AbZ,Aa3,Ach] at h;omega
theorem Xq{l:List UInt8}{t:As}{k:Nat}(h:Fy l=some (t,k)):0<k:=by
 unfold Fy at h
 split at h
 ·simp only[Aa3,Ach] at h;omega
 ·cases e:Bn.find? λs=>Lib.hasPrefix l s with
  | none=>rw[e] at h;cases h
  | some x=>
   rw[e] at h;simp only[AbZ,Aa3,Ach] at h;have hm:=AdG e;have:∀s∈Bn,0<s.length:=Ae2
   have:=this x hm;omega
theorem Fs{l:List UInt8}(hl:l≠[]){t:As}{k:Nat}(h:Cz l=some (t,k)):0<k:=by
 unfold Cz at h
 split at h
 ·rename_i hd;rw[(Oi h).1];exact(IL (AbY.2 hl) hd).1
 ·split at h
  ·exact Xv h
  ·split at h
   ·exact(PF h).2
   ·exact Xq h
theorem Ur{l m:List UInt8}{a b:Nat}(h:l.drop (Aj FI l).length=m.drop (Aj FI m).length)(ha:a+(Aj FI l).length=b+(Aj FI m).length):Ge l a=Ge m b:=by
 cases e:m.drop (Aj FI m).length with
 | nil=>rw[Fm (h.trans e),Fm e,ha]
 | cons c r=>
  cases ho:Cz (c::r) with
  | none=>rw[Gf (h.trans e) Ae7 ho,Gf e Ae7 ho]
  | some x=>
   obtain⟨t,k⟩:=x;have hk:=Fs Ae7 ho;rw[G5 (h.trans e) Ae7 ho hk,G5 e Ae7 ho hk,ha]
theorem QE:∀(l:List UInt8) {x:List UInt8×Nat},Bc l=some x→x.2≤l.length
 | [],x,h=>by simp[Bc] at h
 | [c],x,h=>by
  simp only[Bc] at h
  split at h
  ·simp only[Aa3] at h;subst h;simp
  ·cases h
 | c::d::r,x,h=>by
  simp only[Bc] at h
  split at h
  ·split at h
   ·cases e:Bc r with
    | none=>rw[e] at h;cases h
    | some y=>
     rw[e] at h;simp only[AbZ,Aa3] at h;have:=QE r e;subst h;simp;omega
   ·simp only[Aa3] at h;subst h;simp
  ·split at h
   ·cases h
   ·cases e:Bc (d::r) with
    | none=>rw[e] at h;cases h
    | some y=>
     rw[e] at h;simp only[AbZ,Aa3] at h;have:=QE (d::r) e;subst h;simp at this ⊢;omega
theorem Q3{l:List UInt8}{t:As}{k:Nat}(h:Cz l=some (t,k)):k≤l.length:=by
 unfold Cz at h
 split at h
 ·rw[(Oi h).1];exact EB _ _
 ·split at h
  ·unfold EE at h
   cases e:Bc (l.drop 1) with
   | none=>rw[e] at h;cases h
   | some x=>
    rw[e] at h;simp only[AbZ,Aa3,Ach] at h;have:=QE _ e
    cases l with
    | nil=>cases e
    | cons c r=>
     simp at this ⊢;omega
  ·split at h
   ·rw[(PF h).1];exact EB _ _
   ·unfold Fy at h
    split at h
    ·rename_i hp;simp only[Aa3,Ach] at h;have:=LL hp;have h5:Eh.length=5:=rfl;omega
    ·cases e:Bn.find? λs=>Lib.hasPrefix l s with
     | none=>rw[e] at h;cases h
     | some x=>
      rw[e] at h;simp only[AbZ,Aa3,Ach] at h;have:=LL (Aes e);omega
theorem RN:∀(n:Nat) (l:List UInt8) (a:Nat) {out:List As},l.length≤n→Ge l a=some out→out.length≤l.length+1
 | n,l,a,out,hn,h=>by
  cases e:l.drop (Aj FI l).length with
  | nil=>
   rw[Fm e] at h;simp only[Aa3] at h
   subst h;simp
  | cons c r=>
   have hl:=congrArg List.length e;simp at hl
   cases ho:Cz (c::r) with
   | none=>rw[Gf e Ae7 ho] at h;cases h
   | some x=>
    obtain⟨t,k⟩:=x;have hk:=Fs Ae7 ho;have hk2:=Q3 ho;rw[G5 e Ae7 ho hk] at h
    cases hr:Ge ((c::r).drop k) (a+(Aj FI l).length+k) with
    | none=>rw[hr] at h;cases h
    | some y=>
     rw[hr] at h;simp only[AbZ,Aa3] at h;subst h
     match n with
     | 0=>omega
     | n+1=>
      have hd:((c::r).drop k).length=r.length+1 - k:=Ae7
      have:=RN n ((c::r).drop k) _ AfW hr;simp only[AaT];rw[hd] at this;omega
theorem RO{s:List UInt8}{l:List As}(h:Ii s=some l):l.length≤s.length+1:=RN _ s 0 (Ab9 _) h
def Ev(s:List UInt8)(a:Nat)(out:List As):Prop:=Ii s=(Ge (s.drop a) a).map (out++·)
theorem Ev.start(s:List UInt8):Ev s 0 []:=by simp[Ev,Ii]
theorem Ev.end{s:List UInt8}{a:Nat}{out:List As}(h:Ev s a out)(he:a+(Aj FI (s.drop a)).length=s.length):Ii s=some (out++[⟨0,[],0,A6,(s.length:Int)⟩]):=by
 rw[h,Fm (by rw[Ac6,he,Ad1]),he];rfl
theorem Ev.bad{s:List UInt8}{a c:Nat}{out:List As}(h:Ev s a out)(he:a+(Aj FI (s.drop a)).length=c)(hc:c<s.length)(h1:Cz (s.drop c)=none):Ii s=none:=by
 rw[h,Gf (l':=s.drop c) (by rw[Ac6,he]) Afg h1];rfl
theorem Ev.go{s:List UInt8}{a c k:Nat}{out:List As}{t:As}(h:Ev s a out)(he:a+(Aj FI (s.drop a)).length=c)(hc:c<s.length)(h1:Cz (s.drop c)=some (t,k)):Ev s (c+k) (out++[{t with at_:=(c:Int)}]):=by
 have a0:s.drop c≠[]:=by intro hn;have:=congrArg List.length hn;simp at this;omega
 unfold Ev;rw[h,G5 (l':=s.drop c) (by rw[Ac6,he]) a0 h1 (Fs a0 h1),he,Ac6,Option.map_map]
 congr 1
 funext x
 simp
theorem Ev.blank{s:List UInt8}{a:Nat}{out:List As}(h:Ev s a out)(ha:a<s.length)(hb:Ab s a=32):Ev s (a+1) out:=by
 unfold Ev;rw[h];have e:(Aj FI (s.drop a)).length=(Aj FI (s.drop (a+1))).length+1:=by
  obtain⟨c,e,hc⟩:=G1 ha;rw[e];have:FI (c.toNat:Int)=true:=by simp[FI];omega
  simp[Aj,this]
 have e2:(s.drop a).drop (Aj FI (s.drop a)).length=(s.drop (a+1)).drop (Aj FI (s.drop (a+1))).length:=by
  rw[Ac6,Ac6,e]
  congr 1
  omega
 have e3:a+(Aj FI (s.drop a)).length=a+1+(Aj FI (s.drop (a+1))).length:=Aez
 rw[Ur e2 e3]
theorem Pw(acc:Int)(c:UInt8)(r:List UInt8):A1 acc (c::r)=A1 (10*acc+((c.toNat:Int) - 48)) r:=rfl
theorem Jg:∀(l:List UInt8) (acc:Int),0≤acc→(∀c∈l,48≤c.toNat)→acc≤A1 acc l
 | [],acc,_,_=>AdL _
 | c::r,acc,h,hd=>by
  rw[Pw];have hc:=hd c Ae7;have:=Jg r (10*acc+((c.toNat:Int) - 48)) Aez (λx hx=>hd x AfV);omega
theorem KE:∀(l:List UInt8) (acc:Nat),acc<18446744073709551616→(∀c∈l,48≤c.toNat∧c.toNat≤57)→
  Lib.parseUint10 acc l=if A1 acc l<18446744073709551616 then .ok (A1 acc l).toNat else .range
 | [],acc,h,_=>by
  have:A1 acc []=acc:=rfl;simp only[Lib.parseUint10,this];rw[if_pos Aez]
  rfl
 | c::r,acc,h,hd=>by
  have hc:=hd c Ae7;have hr:∀x∈r,48≤x.toNat∧x.toNat≤57:=λx hx=>hd x AfV;have e:(10*(acc:Int)+((c.toNat:Int) - 48))=((acc*10+(c.toNat - 48):Nat):Int):=Aez
  have hm:=Jg r (10*(acc:Int)+((c.toNat:Int) - 48)) Aez (λx hx=>(hr x hx).1);simp only[Lib.parseUint10];rw[if_pos hc,Pw]
  split
  ·rw[if_neg Aez]
  ·split
   ·rw[if_neg Aez]
   ·rw[KE r _ Aez hr,e]
theorem Ri{l:List UInt8}(h:l≠[])(hd:∀c∈l,Aq (c.toNat:Int)=true):Lib.atoiAll l=if A1 0 l≤9223372036854775807 then .ok (A1 0 l) else .range:=by
 have a0:∀c∈l,48≤c.toNat∧c.toNat≤57:=λc hc=>by
  have:=hd c hc;simp[Aq] at this;omega
 have hp:=KE l 0 Aez a0;have hm:=Jg l 0 Aez (λc hc=>(a0 c hc).1)
 cases l with
 | nil=>exact absurd rfl h
 | cons c r=>
  have hc:=a0 c Ae7;rw[Lib.atoiAll_plain c r Aez Aez];have e:Lib.parseMag (c::r)=Lib.parseUint10 0 (c::r):=by simp[Lib.parseMag]
  rw[e,hp];simp only[Int.natCast_zero] at *;by_cases h1:A1 0 (c::r)<18446744073709551616
  ·rw[if_pos h1];simp only[Lib.signless];by_cases h2:A1 0 (c::r)≤9223372036854775807
   ·rw[if_pos h2,if_neg Aez]
    congr 1
    omega
   ·rw[if_neg h2,if_pos Aez]
  ·rw[if_neg h1,if_neg Aez];rfl
theorem H5(p:Int→Bool):∀(l:List UInt8),∀c∈Aj p l,p (c.toNat:Int)=true
 | [],c,hc=>by simp[Aj] at hc
 | d::r,c,hc=>by
  have ih:=H5 p r;simp only[Aj] at hc ih;cases hd:p (d.toNat:Int)
  ·simp[hd] at hc
  ·simp only[List.takeWhile_cons,hd,if_true,Acf] at hc;rcases hc with rfl | hc
   ·exact hd
   ·exact ih c hc
theorem K7{l:List UInt8}(h:Aj Aq l≠[]):LF l=if A1 0 (Aj Aq l)≤9223372036854775807∧(Ab (Aj Aq l) 0≠48∨(Aj Aq l).length=1) then some (⟨1,[],A1 0 (Aj Aq l),A6,0⟩,(Aj Aq l).length) else none:=by
 have ha:=Ri h (H5 Aq l);by_cases h1:A1 0 (Aj Aq l)≤9223372036854775807
 ·rw[if_pos h1] at ha;rw[V5 ha];simp only[h1,true_and]
 ·rw[if_neg h1] at ha;rw[Ss (by intro z hz;rw[ha] at hz;cases hz),if_neg (by intro hh;exact h1 hh.1)]
theorem HJ(c:Int)(w:World):AF prog 195 [.int .u8 c] w (λv w'=>v=.bool (Aq c)∧Ae w w'):=by
 refine AQ func195 ntmps195 ?_;refine Sa ?_;refine B6 (λh1=>?_) λh1=>?_
 all_goals
  refine Sa ?_;refine QW.body1 rfl rfl ⟨?_,Chg.refl _ _⟩;simp[Aq,h1]
theorem HI(c:Int)(w:World):AF prog 220 [.int .u8 c] w (λv w'=>v=.bool (Bb c)∧Ae w w'):=by
 refine AQ func220 ntmps220 ?_;refine Sa ?_;refine B6 (λh1=>?_) λh1=>?_
 all_goals
  refine Sa ?_;refine QW.body1 rfl rfl ⟨?_,Chg.refl _ _⟩;simp[Bb,h1]
theorem Xr(c:Int)(w:World):AF prog 167 [.int .u8 c] w (λv w'=>v=.bool (FI c)∧Ae w w'):=by
 refine AQ func167 ntmps167 ?_;refine Sa ?_;refine QW.body1 rfl rfl ⟨rfl,Chg.refl _ _⟩
theorem Nn(c:Int)(w:World):AF prog 198 [.int .u8 c] w (λv w'=>v=.bool (GM c)∧Ae w w'):=by
 refine AQ func198 ntmps198 ?_;refine Sa ?_;refine Ax rfl rfl (HI _ _) ?_;rintro v w' ⟨rfl,hx⟩;refine Sa ?_;refine B6 (λh1=>?_) λh1=>?_
 ·refine Sa ?_;refine QW.body1 rfl rfl ⟨?_,hx⟩;simp[GM,h1]
 ·refine Sa ?_;refine B6 (λh2=>?_) λh2=>?_
  ·refine Sa ?_;refine B6 (λh3=>?_) λh3=>?_
   all_goals
    refine Sa ?_;refine QW.body1 rfl rfl ⟨?_,hx⟩;simp[GM,h1,h2,h3]
  ·refine Sa ?_;refine QW.body1 rfl rfl ⟨?_,hx⟩;simp[GM,h1,h2]
theorem UV(c:Int)(w:World):AF prog 221 [.int .u8 c] w (λv w'=>v=.bool (DQ c)∧Ae w w'):=by
 refine AQ func221 ntmps221 ?_;refine Sa ?_;refine Ax rfl rfl (Nn _ _) ?_;rintro v w1 ⟨rfl,hx⟩;refine Sa ?_;refine B6 (λh1=>?_) λh1=>?_
 ·refine Sa ?_;refine QW.body1 rfl rfl ⟨?_,hx⟩;simp[DQ,h1]
 ·refine Sa ?_;refine Ax rfl rfl (HJ _ _) ?_;rintro v w2 ⟨rfl,a0⟩;replace hx:=hx.trans a0;refine Sa ?_;refine B6 (λh2=>?_) λh2=>?_
  all_goals
   refine Sa ?_;refine QW.body1 rfl rfl ⟨?_,hx⟩;simp[DQ,h1,h2]
theorem JH(p:Int→Bool)(f:Nat)(hp:∀(c:Int) (w:World),AF prog f [.int .u8 c] w (λv w'=>v=.bool (p c)∧Ae w w'))(s:List UInt8)(hs:s.length≤1000000)(a:Nat)(ha:a≤s.length)(b:Nat)(w:World)(hB:Blk w b [Am s,.int .i64 a] 196) :
  AF prog 166 [.pointer (some ⟨b,0,none⟩),.func (.func f) #[] #[]] w
  (λv w'=>v=Am (Aj p (s.drop a))∧Chg [b] w w'∧Blk w' b [Am s,.int .i64 ((a+(Aj p (s.drop a)).length:Nat):Int)] 196):=by
 refine AQ func166 ntmps166 ?_;refine Sa ?_;refine CW.loop (ι:=Nat) (λk w'=>a≤k∧k≤s.length∧Ae w w'∧∀j,a≤j→j<k→p (Ab s j)=true) (λk=>[(0,.pointer (some ⟨b,0,none⟩)),(1,.func (.func f) #[] #[]),(5,.int .i64 k)]) (λk=>s.length - k) a ⟨by omega,ha,Chg.refl _ _,by omega⟩ Bh ?_;rintro k w1 ⟨a2,hk,hx,a0⟩;replace hB:=hB.ext hx;refine Sa ?_;refine B6 (λh1=>?_) λh1=>?_
 ·have h1:k<s.length:=by simpa using h1
  refine Sa ?_;refine LW.call (fs:=[]) (cs:=[]) rfl rfl rfl (hp _ _) ?_;rintro v w2 ⟨rfl,a4⟩;replace hB:=hB.ext a4;replace hx:=hx.trans a4;refine Sa ?_;refine Av (λh2=>?_) λh2=>?_
  ·have h2:p (Ab s k)=true:=h2;refine Sa ?_;refine QW.again (k+1) ⟨by omega,by omega,hx,?_⟩ Bh Aez;intro j a5 hj;by_cases a6:j=k
   ·subst a6;exact h2
   ·exact a0 j a5 Aez
  ·have h2:p (Ab s k)=false:=h2;obtain⟨e1,e2⟩:=H6 p s a k a2 hk a0 (Or.inr h2);refine Sa ?_;refine HZ ?_;refine Sq ?_;refine QL.slice_str (i:=a) (j:=k) rfl rfl rfl ⟨_,_,rfl,rfl⟩ ⟨_,_,rfl,rfl⟩ a2 hk rfl ?_;refine Sq ?_;refine QL.nil λw4 a1=>?_;replace hB:=hB.ext a1;replace hx:=hx.trans a1;refine Sa ?_;refine BO λw3 hc a3=>?_;refine Sa ?_;refine QW.body1 rfl rfl ⟨?_,hx.chg.same hc,?_⟩
   ·rw[←e1,MJ]
   ·rw[←e2];exact a3
 ·have h1:k=s.length:=by simp at h1;omega
  obtain⟨e1,e2⟩:=H6 p s a k a2 hk a0 (Or.inl h1);refine Sa ?_;refine HZ ?_;refine Sq ?_;refine QL.slice_str (i:=a) (j:=k) rfl rfl rfl ⟨_,_,rfl,rfl⟩ ⟨_,_,rfl,rfl⟩ a2 hk rfl ?_;refine Sq ?_;refine QL.nil λw4 a1=>?_;replace hB:=hB.ext a1;replace hx:=hx.trans a1;refine Sa ?_;refine BO λw3 hc a3=>?_;refine Sa ?_;refine QW.body1 rfl rfl ⟨?_,hx.chg.same hc,?_⟩
  ·rw[←e1,MJ]
  ·rw[←e2];exact a3
def X9(s:List UInt8)(a b:Nat)(w:World)(o:Option (As×Nat))(v:Value)(w':World):Prop:=
 ∃t ok a',v=.tuple #[.agg ⟨Bu t⟩,.bool ok]∧Chg [b] w w'∧Blk w' b [Am s,.int .i64 ((a':Nat):Int)] 196∧a'≤s.length∧a≤a'∧o=if ok then some (t,a' - a) else none
theorem _root_.Go.E.Chg.fresh{S S':List Nat}{a b c:World}(h:Chg S a b)(k:Chg S' b c)(hs:∀j,j∈S'→a.heap.size≤j):Chg S a c:=
 (Chg.trans h k).mono λj hj hl=>by
  rcases AbB.1 hj with hj | hj
  ·exact hj
  ·have:=hs j hj;omega
theorem Pm(s:List UInt8)(w:World)(hs:s.length≤1000000):AF prog 216 [Am s] w (λv w'=>v=.bool (KY s)∧Ae w w'):=by
 refine AQ func216 ntmps216 ?_;refine Sa ?_;refine B6 (λh0=>?_) λh0=>?_
 ·have h0:s=[]:=by simpa using h0
  subst h0;refine Sa ?_;refine QW.body1 rfl rfl ⟨rfl,Chg.refl _ _⟩
 have h0:s≠[]:=by simpa using h0
 have hp:0<s.length:=AbY.2 h0;refine Sa ?_;refine B6 (λh1=>?_) λh1=>?_
 ·have h1:12<s.length:=by simp at h1;omega
  refine Sa ?_;refine QW.body1 rfl rfl ⟨by rw[R5 h1],Chg.refl _ _⟩
 have h1:s.length≤12:=by simp at h1;omega
 refine Sa ?_;refine Ax rfl rfl (HI _ _) ?_;rintro v w1 ⟨rfl,hx⟩;refine Sa ?_;refine Av (λh2=>?_) λh2=>?_
 ·refine Sa ?_;refine QW.body1 rfl rfl ⟨?_,hx⟩;rw[Pj]
  simpa using h2
 have h2:Bb (Ab s 0)=true:=by simpa using h2
 refine Sa ?_;refine CW.loop (ι:=Nat) (λk w'=>k≤s.length∧Ae w w'∧∀j,j<k→X4 (Ab s j)=true) (λk=>[(0,Am s),(18,.int .i64 s.length),(19,.int .i64 k)]) (λk=>s.length - k) 0 ⟨by omega,hx,by omega⟩ Bh ?_;rintro k w2 ⟨hk,a1,a0⟩;refine Sa ?_;refine Av (λh3=>?_) λh3=>?_
 ·have h3:k<s.length:=by simpa using h3
  refine Sa ?_;refine Ax rfl rfl (HI _ _) ?_;rintro v w3 ⟨rfl,a2⟩;refine Sa ?_;refine B6 (λh4=>?_) λh4=>?_
  ·refine Sa ?_;refine Ax rfl rfl (HJ _ _) ?_;rintro v w4 ⟨rfl,a4⟩;refine Sa ?_;refine Av (λh5=>?_) λh5=>?_
   ·refine Sa ?_;refine QW.body1 rfl rfl ⟨?_,(a1.trans a2).trans a4⟩;rw[Yc h3];simp at h4 h5;simp[X4,h4,h5]
   ·refine Sa ?_;refine QW.again (k+1) ⟨by omega,(a1.trans a2).trans a4,?_⟩ Bh Aez;intro j hj;by_cases a3:j=k
    ·subst a3;simp at h5;simp[X4,h5]
    ·exact a0 j Aez
  ·refine Sa ?_;refine QW.again (k+1) ⟨by omega,a1.trans a2,?_⟩ Bh Aez;intro j hj;by_cases a3:j=k
   ·subst a3;simp at h4;simp[X4,h4]
   ·exact a0 j Aez
 ·have h3:k=s.length:=by simp at h3;omega
  subst h3;refine Sa ?_;refine QW.body1 rfl rfl ⟨?_,a1⟩;rw[R6 h0 h1 h2 a0]
theorem U2(s:List UInt8)(hs:s.length≤1000)(a:Nat)(ha:a<s.length)(hd:Aq (Ab s a)=true)(b:Nat)(w0 w:World)(g:Dg w0)(h0:Ae w0 w)(hb0:w0.heap.size≤b)(hB:Blk w b [Am s,.int .i64 a] 196) :
  AF prog 196 [.pointer (some ⟨b,0,none⟩)] w (X9 s a b w (LF (s.drop a))):=by
 have a8:=EB Aq (s.drop a);have a5:(s.drop a).length=s.length - a:=Ae7
 obtain⟨aa,ab⟩:=IL (p:=Aq) (l:=s.drop a) Aez (by rw[Dz];exact hd);have ac:=hB.lt;refine AQ func196 ntmps196 ?_;refine Sa ?_;refine BX λC w1 ad hx hC=>?_;have ae:b<C:=Aez
 replace hB:=hB.ext hx;refine Sa ?_;refine LW.call (fs:=[]) (cs:=[]) rfl rfl rfl (JH Aq _ HJ s Aez a Aez b w1 hB) ?_;rintro v w2 ⟨rfl,a3,hB⟩;replace hC:=hC.chg a3 Ae0;have a0:Chg [b] w w2:=(Chg.trans hx a3).mono Ae7;have a9:Ae w0 w2:=(h0.trans hx).step a3 (by simpa using hb0);refine Sa ?_;refine Ax rfl rfl (Im _ Aez w2 (g.ext a9)) ?_;rintro v w3 ⟨hv,a4⟩;replace hC:=hC.ext a4;replace hB:=hB.ext a4;replace a0:=a0.ext a4;unfold Jv at hv;by_cases a6:∃z,Lib.atoiAll (Aj Aq (s.drop a))=.ok z
 ·obtain⟨z,a7⟩:=a6;rw[a7] at hv;rw[V5 a7];simp only at hv;subst hv;refine Sa ?_
  (first | (apply LW.eql_nil;exact rfl;exact rfl;exact rfl;exact rfl) | (apply LW.eql_nil_nil;exact rfl;exact rfl;exact rfl;exact rfl))
  refine Sa ?_;refine B6 (λh3=>?_) λh3=>?_
  ·refine Sa ?_;refine AR λw4 a1 hC=>?_;replace hC:Blk w4 C (Bu ⟨1,[],z,A6,0⟩) 115:=hC;replace hB:=hB.chg a1 Ae0;replace a0:=a0.fresh a1 Ae0;refine Sa ?_;refine QW.body_ct rfl rfl hC rfl rfl rfl rfl ⟨_,_,_,rfl,a0,hB,by omega,by omega,?_⟩;have h3:Ab (Aj Aq (s.drop a)) 0≠48:=by simpa using h3
   simp only[h3,ne_eq,not_false_eq_true,true_or,if_true,Ael]
  ·refine Sa ?_;refine AR λw4 a1 hC=>?_;replace hC:Blk w4 C (Bu ⟨1,[],z,A6,0⟩) 115:=hC;replace hB:=hB.chg a1 Ae0;replace a0:=a0.fresh a1 Ae0;refine Sa ?_;refine QW.body_ct rfl rfl hC rfl rfl rfl rfl ⟨_,_,_,rfl,a0,hB,by omega,by omega,?_⟩;have h3:Ab (Aj Aq (s.drop a)) 0=48:=by simpa using h3
   simp only[h3,ne_eq,not_true_eq_false,false_or,Ael,decide_eq_true_eq];by_cases h4:(Aj Aq (s.drop a)).length=1
   ·simp[h4]
   ·have h5:¬((Aj Aq (s.drop a)).length:Int)=1:=Aez
    simp[h4,h5]
 ·have a2:∀z,Lib.atoiAll (Aj Aq (s.drop a))≠.ok z:=λz hz=>a6 ⟨z,hz⟩;rw[Ss a2];obtain⟨z,t,x,rfl⟩:∃z t x,v=.tuple #[.int .i64 z,.iface t x]:=by
   split at hv
   ·rename_i z hz;exact absurd hz (a2 z)
   ·exact hv
  refine Sa ?_
  (first | (apply LW.eql_nil;exact rfl;exact rfl;exact rfl;exact rfl) | (apply LW.eql_nil_nil;exact rfl;exact rfl;exact rfl;exact rfl))
  refine Sa ?_;refine AR λw4 a1 hC=>?_;replace hC:Blk w4 C (Bu ⟨1,[],z,A6,0⟩) 115:=hC;replace hB:=hB.chg a1 Ae0;replace a0:=a0.fresh a1 Ae0;refine Sa ?_;refine QW.body_ct rfl rfl hC rfl rfl rfl rfl ⟨_,_,_,rfl,a0,hB,by omega,by omega,rfl⟩
theorem Zo(s:List UInt8)(hs:s.length≤1000)(a:Nat)(ha:a<s.length)(b:Nat)(w0 w:World)(g:Dg w0)(h0:Ae w0 w)(hb0:w0.heap.size≤b)(hB:Blk w b [Am s,.int .i64 a] 196) :
  AF prog 199 [.pointer (some ⟨b,0,none⟩)] w (X9 s a b w (Es (s.drop a))):=by
 have a8:=EB DQ (s.drop a);have a7:(s.drop a).length=s.length - a:=Ae7
 have ac:=hB.lt;refine AQ func199 ntmps199 ?_;refine Sa ?_;refine BX λC w1 ad hx hC=>?_;have ae:b<C:=Aez
 replace hB:=hB.ext hx;refine Sa ?_;refine LW.call (fs:=[]) (cs:=[]) rfl rfl rfl (JH DQ _ UV s Aez a Aez b w1 hB) ?_;rintro v w2 ⟨rfl,a4,hB⟩;replace hC:=hC.chg a4 Ae0;have a0:Chg [b] w w2:=(Chg.trans hx a4).mono Ae7;have a9:Ae w0 w2:=(h0.trans hx).step a4 (by simpa using hb0);refine Sa ?_;refine Ax rfl rfl (QV _ Aez w2 (g.ext a9)) ?_;rintro v w3 ⟨rfl,a5⟩;replace hC:=hC.ext a5;replace hB:=hB.ext a5;replace a0:=a0.ext a5;have af:=a0.size
 cases hr:Bd (Aj DQ (s.drop a)) with
 | true=>
  rw[F9,if_pos hr];refine Sa ?_;refine BX λF w4 aa a1 hF=>?_;have ab:C<F:=by have:=hC.lt;omega
  replace hC:=hC.ext a1;replace hB:=hB.ext a1;replace a0:=a0.ext a1;refine Sa ?_;refine AR λw5 a2 hF=>?_;replace hF:Blk w5 F (AZ (D0 (Aj DQ (s.drop a)))) 113:=hF;replace hC:=hC.chg a2 Ae0;replace hB:=hB.chg a2 Ae0;replace a0:=a0.fresh a2 Ae0;refine Sa ?_;refine AR λw6 a3 hC=>?_;replace hC:Blk w6 C (Bu ⟨4,[],0,D0 (Aj DQ (s.drop a)),0⟩) 115:=hC;replace hB:=hB.chg a3 Ae0;replace a0:=a0.fresh a3 Ae0;refine Sa ?_;refine QW.body_ct rfl rfl hC rfl rfl rfl rfl ⟨_,_,_,rfl,a0,hB,by omega,by omega,?_⟩
  simp[Es,hr]
 | false=>
  rw[Mt hr];refine Sa ?_;refine BX λF w4 aa a1 hF=>?_;have ab:C<F:=by have:=hC.lt;omega
  replace hC:=hC.ext a1;replace hB:=hB.ext a1;replace a0:=a0.ext a1;refine Sa ?_;refine AR λw5 a2 hF=>?_;replace hC:=hC.chg a2 Ae0;replace hB:=hB.chg a2 Ae0;replace a0:=a0.fresh a2 Ae0;refine Sa ?_;refine Ax rfl rfl (Pm _ w5 Aez) ?_;rintro v w7 ⟨rfl,a6⟩;replace hC:=hC.ext a6;replace hB:=hB.ext a6;replace a0:=a0.ext a6;refine Sa ?_;refine AR λw6 a3 hC=>?_;replace hC:Blk w6 C (Bu ⟨3,Aj DQ (s.drop a),0,A6,0⟩) 115:=hC;replace hB:=hB.chg a3 Ae0;replace a0:=a0.fresh a3 Ae0;refine Sa ?_;refine QW.body_ct rfl rfl hC rfl rfl rfl rfl ⟨_,_,_,rfl,a0,hB,by omega,by omega,?_⟩;simp[Es,hr]
theorem YW(k:Nat)(hk:k<15):(Bn.map Am)[k]?=some (Am (Bn.getD k [])):=by
 have:Bn.length=15:=rfl;simp[Aak (show k<Bn.length by omega)]
theorem Xp(s:List UInt8)(hs:s.length≤1000)(a:Nat)(ha:a<s.length)(b:Nat)(w:World)(hB:Blk w b [Am s,.int .i64 a] 196) :
  AF prog 200 [.pointer (some ⟨b,0,none⟩)] w (X9 s a b w (Fy (s.drop a))):=by
 have a7:(s.drop a).length=s.length - a:=Ae7
 have ad:=hB.lt;refine AQ func200 ntmps200 ?_;refine Sa ?_;refine BX λC w1 ae hx hC=>?_;have af:b<C:=Aez
 replace hB:=hB.ext hx;refine Sa ?_;refine HZ ?_;refine Sq ?_;refine QL.slice_str (i:=a) (j:=s.length) rfl rfl rfl ⟨_,_,rfl,rfl⟩ rfl Aez Aez rfl ?_;refine Sq ?_;refine QL.call0 rfl rfl (λw' _=>Jz _ _ w') ?_;refine Sq ?_;refine QL.nil λw2 a5=>?_;rw[E3];replace hC:=hC.ext a5;replace hB:=hB.ext a5;replace hx:=hx.trans a5;refine Sa ?_;refine Av (λhd=>?_) λhd=>?_
 ·have ab:=LL hd;simp only[AaT,AbH] at ab;refine Sa ?_;refine BO λw3 a8 hB=>?_;replace hC:=hC.chg a8 Ae0;have a0:Chg [b] w w3:=(Chg.trans hx a8).mono Ae7;refine Sa ?_;refine AR λw4 a9 hC=>?_;replace hC:Blk w4 C (Bu ⟨6,[],0,A6,0⟩) 115:=hC;replace hB:Blk w4 b [Am s,.int .i64 ((a+5:Nat):Int)] 196:=hB.chg a9 Ae0;replace a0:=a0.fresh a9 Ae0;refine Sa ?_;refine QW.body_ct rfl rfl hC rfl rfl rfl rfl ⟨_,_,_,rfl,a0,hB,by omega,by omega,?_⟩;have hd:Lib.hasPrefix (s.drop a) Eh=true:=hd;simp[Fy,hd]
 have hd:Lib.hasPrefix (s.drop a) Eh=false:=hd;refine Sa ?_;refine Cx λA w3 ag a6 hA=>?_;replace hA:Blk w3 A (Bn.map Am) 9:=hA;have ah:C<A:=by have:=hC.lt;omega
 replace hC:=hC.ext a6;replace hB:=hB.ext a6;replace hx:=hx.trans a6;have ai:=hx.size;refine Sa ?_;refine CW.loop (ι:=Nat) (λk w'=>k≤15∧Ae w3 w'∧∀j,j<k→Lib.hasPrefix (s.drop a) (Bn.getD j [])=false) (λk=>[(0,.pointer (some ⟨b,0,none⟩)),(2,.pointer (some ⟨C,0,none⟩)),(24,.slice (some ⟨A,0,none⟩) 15 15),(25,.int .i64 15),(26,.int .i64 k)]) (λk=>15 - k) 0 ⟨by omega,Chg.refl _ _,by omega⟩ Cu ?_;rintro k w5 ⟨hk,a1,a2⟩;replace hA:=hA.ext a1;replace hC:=hC.ext a1;replace hB:=hB.ext a1;replace hx:=hx.trans a1;refine Sa ?_;refine Av (λh1=>?_) λh1=>?_
 ·have h1:k<15:=by simp at h1;omega
  refine Sa ?_;refine LW.idx_slice (j:=k) rfl rfl rfl rfl rfl Aez Ae0 Af7 rfl ?_;refine Sa ?_;refine LW.load rfl hA (YW k h1) rfl rfl rfl ?_;refine Sa ?_;refine HZ ?_;refine Sq ?_;refine QL.slice_str (i:=a) (j:=s.length) rfl rfl rfl ⟨_,_,rfl,rfl⟩ rfl Aez Aez rfl ?_;refine Sq ?_;refine QL.call0 rfl rfl (λw' _=>Jz _ _ w') ?_;refine Sq ?_;refine QL.nil λw6 a4=>?_;rw[E3];replace hC:=hC.ext a4;replace hB:=hB.ext a4;replace hx:=hx.trans a4;replace a1:=a1.trans a4;refine Sa ?_;refine Av (λh2=>?_) λh2=>?_
  ·have h2:Lib.hasPrefix (s.drop a) (Bn.getD k [])=true:=h2;have hp:=LL h2;refine Sa ?_;refine BO λw7 aa hB=>?_;replace hC:=hC.chg aa Ae0;have a0:Chg [b] w w7:=(Chg.trans hx aa).mono Ae7;refine Sa ?_;refine AR λw8 a3 hC=>?_;replace hC:Blk w8 C (Bu ⟨5,Bn.getD k [],0,A6,0⟩) 115:=hC;replace hB:Blk w8 b [Am s,.int .i64 ((a+(Bn.getD k []).length:Nat):Int)] 196:=hB.chg a3 Ae0;replace a0:=a0.fresh a3 Ae0;refine Sa ?_;refine QW.body_ct rfl rfl hC rfl rfl rfl rfl ⟨_,_,_,rfl,a0,hB,by omega,by omega,?_⟩;simp only[Fy,hd,N3 (λx=>Lib.hasPrefix (s.drop a) x) [] Bn k h1 a2 h2];simp
  ·have h2:Lib.hasPrefix (s.drop a) (Bn.getD k [])=false:=h2;refine Sa ?_;refine QW.again (k+1) ⟨by omega,a1,?_⟩ Cu Aez;intro j hj;by_cases ac:j=k
   ·subst ac;exact h2
   ·exact a2 j Aez
 ·have h1:k=15:=by simp at h1;omega
  subst h1;refine Sa ?_;refine AR λw8 a3 hC=>?_;replace hC:Blk w8 C (Bu ⟨0,[],0,A6,0⟩) 115:=hC;replace hB:=hB.chg a3 Ae0;have a0:Chg [b] w w8:=(hx.mono (S':=[b]) Ae7).fresh a3 Ae0;refine Sa ?_;refine QW.body_ct rfl rfl hC rfl rfl rfl rfl ⟨_,_,a,rfl,a0,hB,by omega,by omega,?_⟩;simp only[Fy,hd,Pg (λx=>Lib.hasPrefix (s.drop a) x) [] Bn a2];simp
theorem Ft{w:World}{lo:Nat}{e:TypeId}{v:Value}{out:List UInt8}{z:Int}(h0:0≤z)(h1:z≤255)(h:A3 w lo e 1 v (out.length+1) (AM out++[.int .u8 z])):A3 w lo e 1 v (out++[ch z]).length (AM (out++[ch z])):=by
 have e1:AM (out++[ch z])=AM out++[.int .u8 z]:=by simp[AM,Gd h0 h1]
 rw[e1]
 simpa using h
theorem Xw(s:List UInt8)(hs:s.length≤1000)(a:Nat)(ha:a<s.length)(b:Nat)(w:World)(hB:Blk w b [Am s,.int .i64 a] 196) :
  AF prog 197 [.pointer (some ⟨b,0,none⟩)] w (X9 s a b w (EE (s.drop a))):=by
 have af:=hB.lt;refine AQ func197 ntmps197 ?_;refine Sa ?_;refine BX λC w1 ag hx hC=>?_;have ah:b<C:=Aez
 replace hB:=hB.ext hx;have ab:C<w1.heap.size:=hC.lt;have ai:=hx.size;refine Sa ?_;refine CW.loop (ι:=Nat×List UInt8×Value) (λk w'=>k.1≤s.length∧k.2.1.length≤k.1∧Ae w1 w'∧A3 w' w1.heap.size 5 1 k.2.2 k.2.1.length (AM k.2.1)∧ER s (a+1) k.1 k.2.1) (λk=>[(0,.pointer (some ⟨b,0,none⟩)),(2,.pointer (some ⟨C,0,none⟩)),(4,k.2.2),(5,.int .i64 k.1)]) (λk=>s.length - k.1) (a+1,[],.slice none 0 0) ⟨by simp;omega,by simp,Chg.refl _ _,A3.nil _ _ _ _,ER.start _ _⟩ B9 ?_;rintro⟨i,out,v⟩ w2 ⟨hi,ho,a1,a0,a5⟩;simp only at hi ho a0 a5;show CW _ _ _ _ _ [(0,.pointer (some ⟨b,0,none⟩)),(2,.pointer (some ⟨C,0,none⟩)),(4,v),(5,.int .i64 i)] _;have aj:=a5.1;have ak:C∉Ac v:=a0.old ab;have a9:b∉Ac v:=a0.old Aez;replace hC:=hC.ext a1;replace hB:=hB.ext a1;have al:=a1.size;refine Sa ?_;refine Av (λh1=>?_) λh1=>?_
 ·have h1:i<s.length:=by simp at h1;omega
  refine Sa ?_;have aa:=CQ s i;refine B6 (λh2=>?_) λh2=>?_
  ·have h2:Ab s i=34:=by simpa using h2
   refine Sa ?_;refine B6 (λh3=>?_) λh3=>?_
   ·have h3:i+1<s.length:=by simp at h3;omega
    refine Sa ?_;refine Av (λh4=>?_) λh4=>?_
    ·have h4:Ab s (i+1)=34:=by simpa using h4
     refine Sa ?_;refine Sa ?_;refine Cx λA w3 ac a7 hA=>?_;replace a0:=a0.ext a7;replace a1:=a1.trans a7;have ad:=a1.size;refine Sa ?_;refine LW.append rfl rfl rfl rfl rfl rfl a0 Aez hA rfl rfl rfl AeK rfl ?_;intro v' w4 a8 a2 ae;replace a1:=a1.step a8 (λk hk=>(a0.lt hk).1);refine Sa ?_;refine QW.again (i+2,out++[ch (Ab s i)],v') ⟨by show i+2≤_;omega,by show(out++_).length≤i+2;simp;omega,a1,Ft aa.1 Aez a2,ER.go a5 Aez ?_⟩ B9 (by show s.length - (i+2)<s.length - i;omega);rw[SZ h3 h2 h4,show i+2 - i=2 by omega,h2];rfl
    ·have h4:i+1<s.length→Ab s (i+1)≠34:=λ_=>by simpa using h4
     refine Sa ?_;refine CW.yes rfl Afj ?_;refine Sa ?_;refine BO λw5 a6 hB=>?_;replace hB:Blk w5 b [Am s,.int .i64 ((i+1:Nat):Int)] 196:=hB;replace hC:=hC.chg a6 Ae0;have a3:Chg [b] w w5:=(Chg.trans (hx.trans a1) a6).mono Ae7;replace a0:=a0.chg a6 (λj hj hb=>a9 Afo);refine Sa ?_;refine LW.string_own rfl a0 rfl rfl rfl rfl rfl rfl rfl ?_;refine Sa ?_;refine AR λw8 a4 hC=>?_;replace hC:Blk w8 C (Bu ⟨2,out,0,A6,0⟩) 115:=hC;replace hB:=hB.chg a4 Ae0;replace a3:=a3.fresh a4 Ae0;refine Sa ?_;refine QW.body_ct rfl rfl hC rfl rfl rfl rfl ⟨_,_,_,rfl,a3,hB,by omega,by omega,?_⟩;have e:=a5.2;rw[HU h1 h2 h4] at e;simp only[EE,Ac6];rw[e];simp;omega
   ·have h3:¬i+1<s.length:=by simp at h3;omega
    have h4:i+1<s.length→Ab s (i+1)≠34:=λh=>absurd h h3;refine Sa ?_;refine CW.yes rfl Afj ?_;refine Sa ?_;refine BO λw5 a6 hB=>?_;replace hB:Blk w5 b [Am s,.int .i64 ((i+1:Nat):Int)] 196:=hB;replace hC:=hC.chg a6 Ae0;have a3:Chg [b] w w5:=(Chg.trans (hx.trans a1) a6).mono Ae7;replace a0:=a0.chg a6 (λj hj hb=>a9 Afo);refine Sa ?_;refine LW.string_own rfl a0 rfl rfl rfl rfl rfl rfl rfl ?_;refine Sa ?_;refine AR λw8 a4 hC=>?_;replace hC:Blk w8 C (Bu ⟨2,out,0,A6,0⟩) 115:=hC;replace hB:=hB.chg a4 Ae0;replace a3:=a3.fresh a4 Ae0;refine Sa ?_;refine QW.body_ct rfl rfl hC rfl rfl rfl rfl ⟨_,_,_,rfl,a3,hB,by omega,by omega,?_⟩;have e:=a5.2;rw[HU h1 h2 h4] at e;simp only[EE,Ac6];rw[e];simp;omega
  ·have h2:Ab s i≠34:=by simpa using h2
   refine Sa ?_;refine CW.no rfl Afj ?_;refine Sa ?_;refine Av (λh5=>?_) λh5=>?_
   ·have h5:Ab s i<32:=by simpa using h5
    refine Sa ?_;refine AR λw8 a4 hC=>?_;replace hC:Blk w8 C (Bu ⟨0,[],0,A6,0⟩) 115:=hC;replace hB:=hB.chg a4 Ae0;have a3:Chg [b] w w8:=((hx.trans a1).mono (S':=[b]) Ae7).fresh a4 Ae0;refine Sa ?_;refine QW.body_ct rfl rfl hC rfl rfl rfl rfl ⟨_,_,a,rfl,a3,hB,by omega,by omega,?_⟩;have e:=a5.2;rw[SY (i:=i) Aez h5] at e;simp only[EE,Ac6];rw[e];simp
   ·have h5:¬Ab s i<32:=by simpa using h5
    refine Sa ?_;refine Sa ?_;refine Cx λA w3 ac a7 hA=>?_;replace a0:=a0.ext a7;replace a1:=a1.trans a7;have ad:=a1.size;refine Sa ?_;refine LW.append rfl rfl rfl rfl rfl rfl a0 Aez hA rfl rfl rfl AeK rfl ?_;intro v' w4 a8 a2 ae;replace a1:=a1.step a8 (λk hk=>(a0.lt hk).1);refine Sa ?_;refine QW.again (i+1,out++[ch (Ab s i)],v') ⟨by show i+1≤_;omega,by show(out++_).length≤i+1;simp;omega,a1,Ft aa.1 Aez a2,ER.go a5 Aez ?_⟩ B9 Afi;rw[VE h1 h2 h5,show i+1 - i=1 by omega]
 ·have h1:i=s.length:=by simp at h1;omega
  refine Sa ?_;refine AR λw8 a4 hC=>?_;replace hC:Blk w8 C (Bu ⟨0,[],0,A6,0⟩) 115:=hC;replace hB:=hB.chg a4 Ae0;have a3:Chg [b] w w8:=((hx.trans a1).mono (S':=[b]) Ae7).fresh a4 Ae0;refine Sa ?_;refine QW.body_ct rfl rfl hC rfl rfl rfl rfl ⟨_,_,a,rfl,a3,hB,by omega,by omega,?_⟩;have e:=a5.2;rw[SW (i:=i) Aez] at e;simp only[EE,Ac6];rw[e];simp
def byF(c:Int):Nat:=if Aq c then 196 else if c=34 then 197 else if GM c then 199 else 200
theorem AaI(c:Int)(w:World):AF prog 168 [.int .u8 c] w (λv w'=>v=.func (.func (byF c)) #[] #[]∧Ae w w'):=by
 refine AQ func168 ntmps168 ?_;refine Sa ?_;refine Ax rfl rfl (HJ _ _) ?_;rintro v w1 ⟨rfl,hx⟩;refine Sa ?_;refine Av (λh1=>?_) λh1=>?_
 ·refine Sa ?_;refine QW.body1 rfl rfl ⟨?_,hx⟩;simp[byF,h1]
 ·refine Sa ?_;refine Av (λh2=>?_) λh2=>?_
  ·have h2:c=34:=by simpa using h2
   refine Sa ?_;refine QW.body1 rfl rfl ⟨?_,hx⟩;rw[byF,h1,if_neg Ae7,if_pos h2]
  ·have h2:c≠34:=by simpa using h2
   refine Sa ?_;refine Ax rfl rfl (Nn _ _) ?_;rintro v w2 ⟨rfl,a0⟩;replace hx:=hx.trans a0;refine Sa ?_;refine Av (λh3=>?_) λh3=>?_
   all_goals
    refine Sa ?_;refine QW.body1 rfl rfl ⟨?_,hx⟩;simp[byF,h1,h2,h3]
theorem ZX(s:List UInt8)(hs:s.length≤1000)(a:Nat)(ha:a<s.length)(b:Nat)(w0 w:World)(g:Dg w0)(h0:Ae w0 w)(hb0:w0.heap.size≤b)(hB:Blk w b [Am s,.int .i64 a] 196) :
  AF prog (byF (Ab s a)) [.pointer (some ⟨b,0,none⟩)] w (X9 s a b w (Cz (s.drop a))):=by
 have e:Ab (s.drop a) 0=Ab s a:=by rw[Dz];rfl
 unfold byF Cz;rw[e];cases h1:Aq (Ab s a)
 ·by_cases h2:Ab s a=34
  ·simp only[Acx,if_false,h2,if_true];exact Xw s hs a ha b w hB
  ·cases h3:GM (Ab s a)
   ·simp only[Acx,if_false,h2];exact Xp s hs a ha b w hB
   ·simp only[Acx,if_false,h2,if_true];exact Zo s hs a ha b w0 w g h0 hb0 hB
 ·simp only[if_true];exact U2 s hs a ha h1 b w0 w g h0 hb0 hB
def TC(s:List UInt8)(v:Value)(w:World)(lo:Nat):Prop:=
 if 300<s.length then v=.tuple #[.slice none 0 0,.int .i64 4]
 else match Ii s with
  | none=>v=.tuple #[.slice none 0 0,.int .i64 5]
  | some l=>∃sv,v=.tuple #[sv,.int .i64 0]∧A3 w lo 115 9 sv l.length (l.flatMap Bu)
theorem MS{w:World}{lo:Nat}{e:TypeId}{v:Value}{out:List As}{t:As}(h:A3 w lo e 9 v (out.length+1) (out.flatMap Bu++Bu t)):A3 w lo e 9 v (out++[t]).length ((out++[t]).flatMap Bu):=by
 simpa using h
theorem Zu(s:List UInt8)(hs:s.length≤9223372036854775807)(w:World)(g:Dg w):AF prog 123 [Am s] w (λv w'=>TC s v w' w.heap.size∧Ae w w'):=by
 refine AQ func123 ntmps123 ?_;refine Sa ?_;refine Av (λh1=>?_) λh1=>?_
 ·have h1:300<s.length:=by simp at h1;omega
  refine Sa ?_;refine QW.body2 rfl rfl rfl ⟨?_,Chg.refl _ _⟩;rw[TC,if_pos h1]
 have h1:¬300<s.length:=by simp at h1;omega
 refine Sa ?_;refine Dq λb w1 az hx hB=>?_;replace hB:Blk w1 b [Am s,.int .i64 ((0:Nat):Int)] 196:=hB;have al:b<w1.heap.size:=hB.lt;refine Sa ?_;refine CW.loop (ι:=Nat×List As×Value) (λk w'=>k.1≤s.length∧k.2.1.length≤k.1∧Ae w w'∧w1.heap.size≤w'.heap.size∧Blk w' b [Am s,.int .i64 k.1] 196∧A3 w' w1.heap.size 115 9 k.2.2 k.2.1.length (k.2.1.flatMap Bu)∧Ev s k.1 k.2.1) (λk=>[(0,Am s),(4,.pointer (some ⟨b,0,none⟩)),(5,k.2.2)]) (λk=>s.length - k.1) (0,[],.slice none 0 0) ⟨by simp,by simp,hx,Ab9 _,hB,A3.nil _ _ _ _,Ev.start _⟩ Bh ?_;rintro⟨a,out,v⟩ w2 ⟨ha,ho,am,b0,ai,a1,aa⟩;clear hB;simp only at ha ho ai a1 aa;show CW _ _ _ _ _ [(0,Am s),(4,.pointer (some ⟨b,0,none⟩)),(5,v)] _;have af:b∉Ac v:=a1.old al;refine Sa ?_;refine Ax rfl rfl (JH FI _ Xr s Aez a Aez b w2 ai) ?_;rintro u w3 ⟨rfl,ag,aj⟩;have ah:=am.step ag Ae0;have b1:=ag.size;have a3:=a1.chg ag (λj hj hb=>af Afo);generalize hc:a+(Aj FI (s.drop a)).length=c at aj;have b2:c≤s.length:=by
  have:=EB FI (s.drop a);simp at this;omega
 refine Sa ?_;refine Av (λh2=>?_) λh2=>?_
 ·have h2:c=s.length:=by simp at h2;omega
  refine Sa ?_;refine Cx λA w4 an a2 hA=>?_;replace hA:Blk w4 A (Bu ⟨0,[],0,A6,(s.length:Int)⟩) 115:=by rw[←h2];exact hA
  have ao:=a2.size;refine Sa ?_;refine LW.append rfl rfl rfl rfl rfl rfl (a3.ext a2) Aez hA rfl rfl rfl Aff rfl ?_;intro v' w5 a6 a0 _;refine Sa ?_;refine QW.body2 rfl rfl rfl ⟨?_,(ah.trans a2).step a6 (λk hk=>?_)⟩
  ·rw[TC,if_neg h1,aa.end Aez];refine⟨_,rfl,?_⟩;obtain⟨hl,hh⟩:=MS a0;refine⟨hl,?_⟩;rcases hh with hh | ⟨gg,cap,sp,e1,e2,e3,e4,e5⟩
   ·exact .inl hh
   ·exact .inr ⟨gg,cap,sp,e1,e2,e3,e4,by have:=hx.size;omega⟩
  ·have:=(a1.lt hk).1;have:=hx.size;omega
 have h2:c<s.length:=by simp at h2;omega
 refine Sa ?_;refine Ax rfl rfl (AaI _ _) ?_;rintro u w4 ⟨rfl,a2⟩;have ao:=a2.size;refine Sa ?_;refine LW.call (fs:=[]) (cs:=[]) rfl rfl rfl (ZX s Aez c h2 b w w4 g (ah.trans a2) Aez (aj.ext a2)) ?_;rintro u w5 ⟨t,ok,a',rfl,a6,ap,aq,b3,a7⟩;have ar:=(ah.trans a2).step a6 Ae0;have b4:=a6.size;have a0:=(a3.ext a2).chg a6 (λj hj hb=>af Afo);refine Sa ?_;refine BX λC w6 b5 ab hC=>?_;have b6:=ab.size;refine Sa ?_;refine AR λw7 ac hC=>?_;replace hC:Blk w7 C (Bu t) 115:=hC;have ak:=(ar.trans ab).step ac Ae0;have b7:=ac.size;have au:=(ap.ext ab).chg ac Ae0;have a8:=(a0.ext ab).chg ac (λj hj hb=>by
  simp at hb;have:=(a0.lt hj).2;omega)
 refine Sa ?_
 cases ok with
 | false=>
  refine Sa ?_;refine QW.body2 rfl rfl rfl ⟨?_,ak⟩
  rw[TC,if_neg h1,aa.bad hc h2 Afp]
 | true=>
  have a7:Cz (s.drop c)=some (t,a' - c):=by simpa using a7
  have av:=Fs Afg a7;refine Sa ?_;refine BO λw8 ad hC=>?_;replace hC:Blk w8 C (Bu {t with at_:=(c:Int)}) 115:=hC;have aw:=ak.step ad Ae0;have b8:=ad.size;have ax:=au.chg ad Ae0;have a9:=a8.chg ad (λj hj hb=>by
   simp at hb;have:=(a0.lt hj).2;omega)
  refine Sa ?_;refine Cx λA w9 an ae hA=>?_;replace hA:Blk w9 A (Bu {t with at_:=(c:Int)}) 115:=hA;have b9:=ae.size;refine Sa ?_;refine LW.append rfl rfl rfl rfl rfl rfl (a9.ext ae) Aez hA rfl rfl rfl Aff rfl ?_;intro v' ba a4 a5 _;have ay:=a4.size;refine Sa ?_;refine QW.again (a',out++[{t with at_:=(c:Int)}],v') ⟨aq,by simp;omega,?_,by omega,?_,MS a5,?_⟩ Bh (by show s.length - a'<s.length - a;omega)
  ·refine(aw.trans ae).step a4 (λk hk=>?_);have:=(a1.lt hk).1;omega
  ·exact(ax.ext ae).chg a4 af
  ·have:=aa.go hc h2 a7
   rwa [show c+(a' - c)=a' by omega] at this
end Go.Proofs.YtefaigjfkddelaaGreatDoor
