/-
  Joined by program out of the texts CQ Addr Ref LexL.
-/
import Derived.Test.YtcjjcnecopnpcaaGreatDoorTab
import Derived.Test.YtcjjcnecopnpcaaGreatDoorMxE
import Derived.Test.YtcjjcnecopnpcaaGreatDoorShelf
import Derived.ChangeAgain
import Derived.Lib.ItoaNum
import Derived.Lib.Strings
import Derived.Lib.IndexMore
import Derived.Lib.AtoiAll
import Derived.Lib.ItoaLen
import Derived.Lib.AtoiAllCases
namespace Go.Proofs.YtcjjcnecopnpcaaGreatDoor
open Tryz
open Go Go.E Go.RowKit
structure CQ(w:World):Prop where
 shaped:w.ShapedOpen prog
 pow : Lib.TabIs prog w "internal/strconv.uint64pow10" .u64 Lib.pow10Tab
 syn:∃t v,w.cell? ⟨0,0,none⟩=some (.iface t v)
 rng:∃t v,w.cell? ⟨1,0,none⟩=some (.iface t v)
theorem A0{w w':World}(h:Ai w w'){a:Addr}{v:Value}(hc:w.cell? a=some v):w'.cell? a=some v:=by
 have a0:=AbO w a hc;rw[(Ai.toBelow h).cell a0];exact hc
theorem Zu{w w':World}(h:Ai w w'){n:String}{cs:Array Value}(hv:w.var? prog n=some cs):w'.var? prog n=some cs:=by
 unfold World.var? at hv ⊢
 cases hg:prog.globalNamed n with
 | none=>simp[hg] at hv
 | some g=>
  simp only[hg,Ack] at hv ⊢;have a0:g<w.heap.size:=by
   rcases AbI g w.heap.size with hl | hl
   ·exact hl
   ·rw[Array.getElem?_eq_none hl] at hv;cases hv
  rw[(Ai.toBelow h).block g a0];exact hv
theorem CQ.ext{w w':World}(g:CQ w)(h:Ai w w'):CQ w':=
 ⟨World.ShapedOpen.keptBut g.shaped ((Ai.toBelow h).frame (λ_=>False)) (λ_ hf=>hf.elim),Zu h g.pow,
  g.syn.elim λt ht=>ht.elim λv hv=>⟨t,v,A0 h hv⟩,g.rng.elim λt ht=>ht.elim λv hv=>⟨t,v,A0 h hv⟩⟩
theorem Ai.drewN(w:World)(k:Nat):Ai w (w.drewN k):=⟨rfl,rfl,rfl,Abi _,λ_ _ _=>rfl⟩
theorem Ai.grow(w:World)(os:Array Obj):Ai w (Go.Sort.grow w os):=
 ⟨rfl,rfl,rfl,by simp[Go.Sort.grow],λk hk _=>by simp[Go.Sort.grow,Adr hk]⟩
theorem Ai.bytesWorld(w:World)(e:TypeId)(s:ByteArray):Ai w (Lib.bytesWorld w e s):=by
 refine⟨?_,?_,?_,?_,λk hk _=>?_⟩
 ·unfold Lib.bytesWorld World.freeze;split<;>rfl
 ·unfold Lib.bytesWorld World.freeze;split<;>rfl
 ·unfold Lib.bytesWorld World.freeze;split<;>rfl
 ·unfold Lib.bytesWorld World.freeze;simp
 ·unfold Lib.bytesWorld World.freeze;rw[if_neg AdE];show(Array.modify _ _ _)[k]?=_;rw[Adg,if_neg AdG];exact Below.heap_alloc _ _ _ hk
theorem FE{f:FuncId}{args:List Value}{w:World}{R:Ending→World→Prop}{Φ:Value→World→Prop}(hc:Cx prog f=true)(h:Calls prog f ⟨args⟩ w R)(hm:∀e w',R e w'→FO Φ e w'):AF prog f args w Φ:=⟨hc,h.mono hm⟩
theorem Mj(n:Int)(h0:-9223372036854775808≤n)(h1:n≤9223372036854775807)(w:World)(g:CQ w):AF prog 101 [.int .i64 n] w (λv w'=>v=Ao (Lib.itoa n)∧Ai w w'):=
 FE AdF (strconv_Itoa n h0 h1 w g.pow) λe w' ⟨he,k,os,hw⟩=>⟨_,he,rfl,by subst hw;exact(Ai.drewN w k).trans (Ai.grow _ _)⟩
def IW(l:List UInt8)(v:Value):Prop:=match Lib.atoiAll l with
 | .ok n=>v=.tuple #[.int .i64 n,.nilIface]
 | _=>∃z t x,v=.tuple #[.int .i64 z,.iface t x]
theorem HF(l:List UInt8)(hl:l.length≤1000000)(w:World)(g:CQ w):AF prog 157 [Ao l] w (λv w'=>IW l v∧Ai w w'):=by
 have hs:(⟨⟨l⟩⟩:ByteArray).size=l.length:=rfl
 cases h:Lib.atoiAll l with
 | ok n=>
  refine FE AdF (strconv_Atoi_ok ⟨⟨l⟩⟩ (by rw[hs];omega) n h w) λe w' ⟨he,hw⟩=>⟨_,he,by unfold IW;rw[h],?_⟩;rcases hw with rfl | ⟨t,rfl⟩
  ·exact Chg.refl _ _
  ·exact Ai.bytesWorld ..
 | range=>
  obtain⟨t,v,hv⟩:=g.rng
  exact FE AdF (strconv_Atoi_range ⟨⟨l⟩⟩ (by rw[hs];omega) h _ w hv (Or.inr ⟨t,v,rfl⟩)) λe w' ⟨N,he,_,_,hb⟩=>⟨_,he,by unfold IW;rw[h];exact⟨_,_,_,rfl⟩,Ai.of_below hb⟩
 | _=>
  obtain⟨t,v,hv⟩:=g.syn;exact FE AdF (Any.strconv_Atoi_syntax laysAtoi ⟨⟨l⟩⟩ (by rw[hs];omega) h _ w hv (Or.inr ⟨t,v,rfl⟩)) λe w' ⟨N,he,_,_,hb⟩=>⟨_,he,by unfold IW;rw[h];exact⟨_,_,_,rfl⟩,Ai.of_below hb⟩
theorem NI(s p:List UInt8)(w:World):AF prog 302 [Ao s,Ao p] w (λv w'=>v=.tuple #[Ao (Lib.trimPrefix s p),.bool (Lib.hasPrefix s p)]∧Ai w w'):=
 FE AdF (strings_CutPrefix ⟨⟨s⟩⟩ ⟨⟨p⟩⟩ w) λe w' ⟨he,hw⟩=>⟨_,he,rfl,by subst hw;exact Chg.refl _ _⟩
theorem IZ(s p:List UInt8)(w:World):AF prog 271 [Ao s,Ao p] w (λv w'=>v=.bool (Lib.hasPrefix s p)∧Ai w w'):=
 FE AdF (strings_HasPrefix ⟨⟨s⟩⟩ ⟨⟨p⟩⟩ w) λe w' ⟨he,hw⟩=>⟨_,he,rfl,by subst hw;exact Chg.refl _ _⟩
theorem Mm(s o n:List UInt8)(hs:s.length≤1000000)(ho:1≤o.length)(hn:n.length≤1000)(w:World)(g:CQ w):AF prog 243 [Ao s,Ao o,Ao n] w (λv w'=>v=Ao (Lib.replaceAll s o n)∧Ai w w'):=by
 obtain⟨m,hm⟩:=(laysM143).s1_3 w g.shaped;have hc:Lib.countB ⟨⟨s⟩⟩ ⟨⟨o⟩⟩≤s.length+1:=Lib.count_le s o;have hz:Lib.countB ⟨⟨s⟩⟩ ⟨⟨o⟩⟩*n.length≤1000001*1000:=AcJ AdE hn;exact FE AdF (strings_ReplaceAll ⟨⟨s⟩⟩ ⟨⟨o⟩⟩ ⟨⟨n⟩⟩ m w (show s.length<_ by omega) hm ho (show s.length+_*n.length≤_ by omega)) λe w' ⟨he,hw⟩=>⟨_,he,rfl,Ai.of_below hw⟩
theorem Y8(s p:List UInt8)(hs:s.length≤1000000)(w:World)(g:CQ w):AF prog 285 [Ao s,Ao p] w (λv w'=>v=.tuple #[Ao (Lib.cut s p).1,Ao (Lib.cut s p).2.1,.bool (Lib.cut s p).2.2]∧Ai w w'):=
 FE AdF (strings_Cut_shaped ⟨⟨s⟩⟩ ⟨⟨p⟩⟩ w g.shaped (show s.length<_ by omega)) λe w' ⟨he,k,hw⟩=>⟨_,he,rfl,by subst hw;exact Ai.drewN w k⟩
open Go Go.E
def Cm(c:Int):Bool:=decide (65≤c)&&decide (c≤90)
def A6(c:Int):Bool:=decide (48≤c)&&decide (c≤57)
def LP(c:Int):Bool:=Cm c||(decide (97≤c)&&decide (c≤122))
def W8(c:Int):Bool:=LP c||A6 c
def Do(l:List UInt8):Bool:=decide (l≠[])&&decide (l.length≤12)&&LP (Aj l 0)&&decide (∀j,j<l.length→W8 (Aj l j)=true)
theorem Tl{l:List UInt8}(h:12<l.length):Do l=false:=by simp[Do];intros;omega
theorem Rg{l:List UInt8}(h:LP (Aj l 0)=false):Do l=false:=by simp[Do,h]
theorem X7{l:List UInt8}{k:Nat}(hk:k<l.length)(h:W8 (Aj l k)=false):Do l=false:=by
 simp only[Do,Adh,decide_eq_false_iff_not];exact Or.inr λhh=>by rw[hh k hk] at h;cases h
theorem Tn{l:List UInt8}(h0:l≠[])(h1:l.length≤12)(h2:LP (Aj l 0)=true)(h3:∀j,j<l.length→W8 (Aj l j)=true):Do l=true:=by
 simp[Do,h0,h1,h2];exact h3
def Gu(n:Int):List UInt8:=
 if n<0∨701<n then[] else if n<26 then[ch (65+n)] else[ch (65+n / 26 - 1),ch (65+n % 26)]
def Cf(l:List UInt8):Option Int:=
 match l with
 | [_]=>if Cm (Aj l 0) then some (Aj l 0 - 65) else none
 | [_,_]=>if Cm (Aj l 0)&&Cm (Aj l 1) then some ((Aj l 0 - 65+1)*26+(Aj l 1 - 65)) else none
 | _=>none
def EO(l:List UInt8):Value:=match Cf l with
 | some n=>.tuple #[.int .i64 n,.bool true]
 | none=>.tuple #[.int .i64 0,.bool false]
structure Da where
 sheet:List UInt8
 col:Int
 row:Int
 ac:Bool
 ar:Bool
deriving DecidableEq
def Dc(x:Da):List Value:=[Ao x.sheet,.int .i64 x.col,.int .i64 x.row,.bool x.ac,.bool x.ar]
def Nr(x:Da):Value:=.agg ⟨[Ao x.sheet,.int .i64 x.col,.int .i64 x.row,.bool x.ac,.bool x.ar]⟩
def Bz(x:Da):Bool:=(decide (x.sheet=[])||Do x.sheet)&&decide (0≤x.col)&&decide (x.col≤701)&&decide (0≤x.row)&&decide (x.row≤998)
def DB(b:Bool):List UInt8:=if b then[36] else[]
def BR(x:Da):List UInt8:=(if x.sheet=[] then[] else x.sheet++[33])++(DB x.ac++Gu x.col++DB x.ar++Lib.itoa (x.row+1))
def D5(x:Da):List UInt8:=if Bz x then BR x else[]
def As(p:Int→Bool)(s:List UInt8):List UInt8:=s.takeWhile λc=>p c.toNat
def H7(p:Int→Bool)(s:List UInt8):List UInt8:=s.dropWhile λc=>p c.toNat
theorem Mh(p:Int→Bool):∀(s:List UInt8) (k:Nat),k≤s.length→(∀j,j<k→p (Aj s j)=true)→(k=s.length∨p (Aj s k)=false)→s.take k=As p s∧s.drop k=H7 p s
 | [],k,hk,_,_=>by simp[As,H7]
 | c::s,0,_,_,h=>by
  rcases h with h | h
  ·simp at h
  ·have hc:p (c.toNat:Int)=false:=h
   simp[As,H7,hc]
 | c::s,k+1,hk,hall,h=>by
  have hc:p (c.toNat:Int)=true:=hall 0 AdE;have ih:=Mh p s k (by simpa using hk) (λj hj=>hall (j+1) AdE) (by
   rcases h with h | h
   ·exact Or.inl Aeu
   ·exact Or.inr h)
  simp[As,H7,hc] at ih ⊢;exact ih
theorem Q7(s:List UInt8)(k:Nat):cut s 0 k=s.take k:=by simp[cut]
theorem Gv(s:List UInt8)(k:Nat):cut s k s.length=s.drop k:=by
 unfold cut;exact Acy AdM
def HM(s:List UInt8):List UInt8:=if (Lib.cut s [33]).2.2 then(Lib.cut s [33]).1 else[]
def Hy(s:List UInt8):List UInt8:=if (Lib.cut s [33]).2.2 then(Lib.cut s [33]).2.1 else s
def Gr(s:List UInt8):List UInt8:=Lib.trimPrefix (Hy s) [36]
def Lw(s:List UInt8):List UInt8:=H7 Cm (Gr s)
def Mv(s:List UInt8):List UInt8:=Lib.trimPrefix (Lw s) [36]
theorem Kn(p:Int→Bool)(s:List UInt8):(As p s).length≤s.length:=by
 unfold As;exact(List.takeWhile_sublist _).length_le
theorem PB(p:Int→Bool)(s:List UInt8):(H7 p s).length≤s.length:=by
 unfold H7;exact(List.dropWhile_sublist _).length_le
theorem Gb(s p:List UInt8):(Lib.trimPrefix s p).length≤s.length:=by
 unfold Lib.trimPrefix;split<;>simp
theorem WT(s p:List UInt8):(Lib.cut s p).1.length≤s.length:=by
 unfold Lib.cut;split<;>simp;omega
theorem WU(s p:List UInt8):(Lib.cut s p).2.1.length≤s.length:=by
 unfold Lib.cut;split<;>simp
theorem Ly(n:Int):(Gu n).length≤2:=by
 unfold Gu;split
 ·simp
 ·split<;>simp
theorem Fi(b:Bool):(DB b).length≤1:=by cases b<;>simp[DB]
theorem EG(c:Int)(w:World):AF prog 149 [.int .u8 c] w (λv w'=>v=.bool (Cm c)∧Ai w w'):=by
 refine Bj func149 ntmps149 ?_;refine Sa ?_;refine ES (λh1=>?_) λh1=>?_
 all_goals
  refine Sa ?_;refine QW.body1 rfl rfl ⟨?_,Chg.refl _ _⟩;simp[Cm,h1]
theorem Oi(c:Int)(w:World):AF prog 97 [.int .u8 c] w (λv w'=>v=.bool (A6 c)∧Ai w w'):=by
 refine Bj func97 ntmps97 ?_;refine Sa ?_;refine ES (λh1=>?_) λh1=>?_
 all_goals
  refine Sa ?_;refine QW.body1 rfl rfl ⟨?_,Chg.refl _ _⟩;simp[A6,h1]
theorem MI(c:Int)(w:World):AF prog 96 [.int .u8 c] w (λv w'=>v=.bool (LP c)∧Ai w w'):=by
 refine Bj func96 ntmps96 ?_;refine Sa ?_;refine Ay rfl rfl (EG _ _) ?_;rintro v w' ⟨rfl,hx⟩;refine Sa ?_;refine ES (λh1=>?_) λh1=>?_
 ·refine Sa ?_;refine QW.body1 rfl rfl ⟨?_,hx⟩;simp[LP,h1]
 ·refine Sa ?_;refine ES (λh2=>?_) λh2=>?_
  all_goals
   refine Sa ?_;refine QW.body1 rfl rfl ⟨?_,hx⟩;simp[LP,h1,h2]
theorem Qi(s:List UInt8)(w:World)(hs:s.length≤9223372036854775807):AF prog 68 [Ao s] w (λv w'=>v=.bool (Do s)∧Ai w w'):=by
 refine Bj func68 ntmps68 ?_;refine Sa ?_;refine ES (λh0=>?_) λh0=>?_
 ·have h0:s=[]:=by simpa using h0
  subst h0;refine Sa ?_;refine QW.body1 rfl rfl ⟨rfl,Chg.refl _ _⟩
 have h0:s≠[]:=by simpa using h0
 have hp:0<s.length:=Ab8.2 h0;refine Sa ?_;refine ES (λh1=>?_) λh1=>?_
 ·have h1:12<s.length:=by simp at h1;omega
  refine Sa ?_;refine QW.body1 rfl rfl ⟨by rw[Tl h1],Chg.refl _ _⟩
 have h1:s.length≤12:=by simp at h1;omega
 refine Sa ?_;refine Ay rfl rfl (MI _ _) ?_;rintro v w1 ⟨rfl,hx⟩;refine Sa ?_;refine A8 (λh2=>?_) λh2=>?_
 ·refine Sa ?_;refine QW.body1 rfl rfl ⟨?_,hx⟩;rw[Rg]
  simpa using h2
 have h2:LP (Aj s 0)=true:=by simpa using h2
 refine Sa ?_;refine CW.loop (ι:=Nat) (λk w'=>k≤s.length∧Ai w w'∧∀j,j<k→W8 (Aj s j)=true) (λk=>[(0,Ao s),(18,.int .i64 s.length),(19,.int .i64 k)]) (λk=>s.length - k) 0 ⟨by omega,hx,by omega⟩ CF ?_;rintro k w2 ⟨hk,a1,a0⟩;refine Sa ?_;refine A8 (λh3=>?_) λh3=>?_
 ·have h3:k<s.length:=by simpa using h3
  refine Sa ?_;refine Ay rfl rfl (MI _ _) ?_;rintro v w3 ⟨rfl,a2⟩;refine Sa ?_;refine ES (λh4=>?_) λh4=>?_
  ·refine Sa ?_;refine Ay rfl rfl (Oi _ _) ?_;rintro v w4 ⟨rfl,a4⟩;refine Sa ?_;refine A8 (λh5=>?_) λh5=>?_
   ·refine Sa ?_;refine QW.body1 rfl rfl ⟨?_,(a1.trans a2).trans a4⟩;rw[X7 h3];simp at h4 h5;simp[W8,h4,h5]
   ·refine Sa ?_;refine QW.again (k+1) ⟨by omega,(a1.trans a2).trans a4,?_⟩ CF AdE;intro j hj;by_cases a3:j=k
    ·subst a3;simp at h5;simp[W8,h5]
    ·exact a0 j AdE
  ·refine Sa ?_;refine QW.again (k+1) ⟨by omega,a1.trans a2,?_⟩ CF AdE;intro j hj;by_cases a3:j=k
   ·subst a3;simp at h4;simp[W8,h4]
   ·exact a0 j AdE
 ·have h3:k=s.length:=by simp at h3;omega
  subst h3;refine Sa ?_;refine QW.body1 rfl rfl ⟨?_,a1⟩;rw[Tn h0 h1 h2 a0]
theorem QY(b:Bool)(w:World):AF prog 274 [.bool b] w (λv w'=>v=Ao (DB b)∧Ai w w'):=by
 cases b
 all_goals
  refine Bj func274 ntmps274 ?_;refine Sa ?_;refine QW.body1 rfl rfl ⟨rfl,Chg.refl _ _⟩
theorem Y7(n:Int)(h0:-9223372036854775808≤n)(h1:n≤9223372036854775807)(w:World):AF prog 275 [.int .i64 n] w (λv w'=>v=Ao (Gu n)∧Ai w w'):=by
 refine Bj func275 ntmps275 ?_;refine Sa ?_;refine ES (λh2=>?_) λh2=>?_
 ·have h2:n<0:=by simpa using h2
  refine Sa ?_;refine QW.body1 rfl rfl ⟨?_,Chg.refl _ _⟩;rw[Gu,if_pos AdE]
 have h2:0≤n:=by simpa using h2
 refine Sa ?_;refine A8 (λh3=>?_) λh3=>?_
 ·have h3:701<n:=by simpa using h3
  refine Sa ?_;refine QW.body1 rfl rfl ⟨?_,Chg.refl _ _⟩;rw[Gu,if_pos AdE]
 have h3:n≤701:=by simpa using h3
 refine Sa ?_;refine A8 (λh4=>?_) λh4=>?_
 ·have h4:n<26:=by simpa using h4
  refine Sa ?_;refine QW.body1 rfl rfl ⟨?_,Chg.refl _ _⟩;rw[Gu,if_neg AdE,if_pos h4];rfl
 ·have h4:26≤n:=by simpa using h4
  refine Sa ?_;refine QW.body1 rfl rfl ⟨?_,Chg.refl _ _⟩;rw[Gu,if_neg AdE,if_neg AdE];rfl
theorem LV(x:Da)(hs:x.sheet.length≤9223372036854775807)(w:World):AF prog 240 [Nr x] w (λv w'=>v=.bool (Bz x)∧Ai w w'):=by
 obtain⟨sh,c,r,ac,ar⟩:=x;simp only[Nr];refine Bj func240 ntmps240 ?_;refine Sa ?_;refine CM λb w1 hb hx hB=>?_;refine Sa ?_;refine ES (λh1=>?_) λh1=>?_
 ·refine Sa ?_;refine ES (λh2=>?_) λh2=>?_
  ·refine Sa ?_;refine ES (λh3=>?_) λh3=>?_
   ·refine Sa ?_;refine ES (λh4=>?_) λh4=>?_
    ·refine Sa ?_;refine QW.body1 rfl rfl ⟨?_,hx⟩;simp[Bz, *]
    ·refine Sa ?_;refine QW.body1 rfl rfl ⟨?_,hx⟩;simp[Bz, *]
   ·refine Sa ?_;refine QW.body1 rfl rfl ⟨?_,hx⟩;simp[Bz, *]
  ·refine Sa ?_;refine QW.body1 rfl rfl ⟨?_,hx⟩;simp[Bz, *]
 ·refine Sa ?_;refine Ay rfl rfl (Qi _ _ hs) ?_;rintro v w2 ⟨rfl,a0⟩;replace hB:=hB.ext a0;replace hx:=hx.trans a0;refine Sa ?_;refine ES (λh0=>?_) λh0=>?_
  ·refine Sa ?_;refine ES (λh2=>?_) λh2=>?_
   ·refine Sa ?_;refine ES (λh3=>?_) λh3=>?_
    ·refine Sa ?_;refine ES (λh4=>?_) λh4=>?_
     ·refine Sa ?_;refine QW.body1 rfl rfl ⟨?_,hx⟩;simp[Bz, *]
     ·refine Sa ?_;refine QW.body1 rfl rfl ⟨?_,hx⟩;simp[Bz, *]
    ·refine Sa ?_;refine QW.body1 rfl rfl ⟨?_,hx⟩;simp[Bz, *]
   ·refine Sa ?_;refine QW.body1 rfl rfl ⟨?_,hx⟩;simp[Bz, *]
  ·refine Sa ?_;refine QW.body1 rfl rfl ⟨?_,hx⟩;simp[Bz, *]
theorem Qk(s:List UInt8)(hs:s.length≤1000000)(w:World):AF prog 288 [Ao s] w (λv w'=>v=EO s∧Ai w w'):=by
 match s,hs with
 | [],_=>
  refine Bj func288 ntmps288 ?_;refine Sa ?_
  refine QW.body2 rfl rfl rfl ⟨rfl,Chg.refl _ _⟩
 | a::b::c::l,hs=>
  simp at hs;refine Bj func288 ntmps288 ?_;refine Sa ?_;refine A8 (λh=>?_) λh=>?_
  ·refine Sa ?_;refine QW.body2 rfl rfl rfl ⟨rfl,Chg.refl _ _⟩
  ·simp at h;omega
 | [a],_=>
  refine Bj func288 ntmps288 ?_;refine Sa ?_;refine CW.rounds 2 ?_;refine Sa ?_;refine Ay rfl rfl (EG _ _) ?_;rintro v w1 ⟨rfl,hx⟩;refine Sa ?_;refine A8 (λh1=>?_) λh1=>?_
  ·refine Sa ?_;refine QW.body2 rfl rfl rfl ⟨?_,hx⟩;have h1:Cm (Aj [a] 0)=false:=by simpa using h1
   simp[EO,Cf,h1]
  have h1:Cm (Aj [a] 0)=true:=by simpa using h1
  have hb:=GM [a] 0;have a1:65≤Aj [a] 0∧Aj [a] 0≤90:=by simpa[Cm] using h1
  have e0:Aj [a] (0:Int).toNat=Aj [a] 0:=rfl;refine Sa ?_;refine QW.body2 rfl rfl rfl ⟨?_,hx⟩
  simp[EO,Cf,h1]
 | [a,b],_=>
  refine Bj func288 ntmps288 ?_;refine Sa ?_;refine CW.rounds 3 ?_;refine Sa ?_;refine Ay rfl rfl (EG _ _) ?_;rintro v w1 ⟨rfl,hx⟩;refine Sa ?_;refine A8 (λh1=>?_) λh1=>?_
  ·refine Sa ?_;refine QW.body2 rfl rfl rfl ⟨?_,hx⟩;have h1:Cm (Aj [a,b] 0)=false:=by simpa using h1
   simp[EO,Cf,h1]
  have h1:Cm (Aj [a,b] 0)=true:=by simpa using h1
  have hb:=GM [a,b] 0;have a1:65≤Aj [a,b] 0∧Aj [a,b] 0≤90:=by simpa[Cm] using h1
  have e0:Aj [a,b] (0:Int).toNat=Aj [a,b] 0:=rfl;refine Sa ?_;refine Ay rfl rfl (EG _ _) ?_;rintro v w2 ⟨rfl,a0⟩;refine Sa ?_;refine A8 (λh3=>?_) λh3=>?_
  ·refine Sa ?_;refine QW.body2 rfl rfl rfl ⟨?_,hx.trans a0⟩;have h3:Cm (Aj [a,b] 1)=false:=by simpa using h3
   simp[EO,Cf,h1,h3]
  have h3:Cm (Aj [a,b] 1)=true:=by simpa using h3
  have hc:=GM [a,b] 1;have a2:65≤Aj [a,b] 1∧Aj [a,b] 1≤90:=by simpa[Cm] using h3
  have e1:Aj [a,b] (0+1:Int).toNat=Aj [a,b] 1:=rfl;refine Sa ?_;refine QW.body2 rfl rfl rfl ⟨?_,hx.trans a0⟩;simp[EO,Cf,h1,h3]
theorem JF(x:Da)(hs:x.sheet.length≤1000)(w:World)(g:CQ w) :
  AF prog 244 [Nr x] w (λv w'=>v=Ao (D5 x)∧Ai w w'):=by
 obtain⟨sh,c,r,ac,ar⟩:=x;simp only at hs;simp only[Nr];refine Bj func244 ntmps244 ?_;refine Sa ?_;refine CM λb w1 hb hx hB=>?_;refine Sa ?_;refine Ay rfl rfl (LV ⟨sh,c,r,ac,ar⟩ (by simp only;omega) w1) ?_;rintro v w2 ⟨rfl,a0⟩;replace hB:=hB.ext a0;replace hx:=hx.trans a0;refine Sa ?_;refine A8 (λh1=>?_) λh1=>?_
 ·refine Sa ?_;refine QW.body1 rfl rfl ⟨?_,hx⟩;have h1:Bz ⟨sh,c,r,ac,ar⟩=false:=by simpa using h1
  simp[D5,h1]
 have h1:Bz ⟨sh,c,r,ac,ar⟩=true:=by simpa using h1
 have a2:=Fi ac;have a3:=Fi ar;have a4:=Ly c;have hm:0≤c∧c≤701∧0≤r∧r≤998:=by
  simp only[Bz,AaY,decide_eq_true_eq] at h1;exact⟨h1.1.1.1.2,h1.1.1.2,h1.1.2,h1.2⟩
 have a5:=Lib.itoa_length_le (r+1) AdE AdE;refine Sa ?_;refine LU ?_;refine Sq ?_;refine QL.call0 rfl rfl (λw3 _=>QY ac w3) ?_;refine Sq ?_;refine QL.call0 rfl rfl (λw3 _=>Y7 c AdE AdE w3) ?_;refine Sq ?_;refine QL.call0 rfl rfl (λw3 _=>QY ar w3) ?_;refine Sq ?_;refine QL.call0 rfl rfl (λw3 h3=>Mj (r+1) AdE AdE w3 (g.ext (hx.trans h3))) ?_;refine Sq ?_;refine QL.nil λw3 a1=>?_;replace hB:=hB.ext a1;replace hx:=hx.trans a1;refine Sa ?_;refine A8 (λh2=>?_) λh2=>?_
 ·have h2:sh≠[]:=by simpa using h2
  refine Sa ?_;refine QW.body1 rfl rfl ⟨?_,hx⟩;rw[D5,if_pos h1];simp[BR,h2]
 ·have h2:sh=[]:=by simpa using h2
  refine Sa ?_;refine QW.body1 rfl rfl ⟨?_,hx⟩;rw[D5,if_pos h1];simp[BR,h2]
theorem RR(s:List UInt8)(b:Nat)(w:World)(hB:Blk w b [Ao s] 320):AF prog 286 [.pointer (some ⟨b,0,none⟩)] w
  (λv w'=>v=.bool (Lib.hasPrefix s [36])∧Chg [b] w w'∧Blk w' b [Ao (Lib.trimPrefix s [36])] 320):=by
 refine Bj func286 ntmps286 ?_;refine Sa ?_;refine Ay rfl rfl (NI s [36] w) ?_;rintro v w1 ⟨rfl,hx⟩;replace hB:=hB.ext hx;refine Sa ?_;refine CR λw2 hc a0=>?_;refine Sa ?_;exact QW.body1 rfl rfl ⟨rfl,hx.chg.same hc,a0⟩
theorem OY(p:Int→Bool)(f:Nat)(hp:∀(c:Int) (w:World),AF prog f [.int .u8 c] w (λv w'=>v=.bool (p c)∧Ai w w'))(s:List UInt8)(hs:s.length≤1000000)(b:Nat)(w:World)(hB:Blk w b [Ao s] 320) :
  AF prog 287 [.pointer (some ⟨b,0,none⟩),.func (.func f) #[] #[]] w
  (λv w'=>v=Ao (As p s)∧Chg [b] w w'∧Blk w' b [Ao (H7 p s)] 320):=by
 refine Bj func287 ntmps287 ?_;refine Sa ?_;refine CW.loop (ι:=Nat) (λk w'=>k≤s.length∧Ai w w'∧∀j,j<k→p (Aj s j)=true) (λk=>[(0,.pointer (some ⟨b,0,none⟩)),(1,.func (.func f) #[] #[]),(5,.int .i64 k)]) (λk=>s.length - k) 0 ⟨by omega,Chg.refl _ _,by omega⟩ CF ?_;rintro k w1 ⟨hk,hx,a0⟩;replace hB:=hB.ext hx;refine Sa ?_;refine ES (λh1=>?_) λh1=>?_
 ·have h1:k<s.length:=by simpa using h1
  refine Sa ?_;refine LW.call (fs:=[]) (cs:=[]) rfl rfl rfl (hp _ _) ?_;rintro v w2 ⟨rfl,a3⟩;replace hB:=hB.ext a3;replace hx:=hx.trans a3;refine Sa ?_;refine A8 (λh2=>?_) λh2=>?_
  ·have h2:p (Aj s k)=true:=h2;refine Sa ?_;refine QW.again (k+1) ⟨by omega,hx,?_⟩ CF AdE;intro j hj;by_cases a4:j=k
   ·subst a4;exact h2
   ·exact a0 j AdE
  ·have h2:p (Aj s k)=false:=h2;have a1:=Mh p s k hk a0 (Or.inr h2);refine Sa ?_;refine LW.slice_str (i:=0) (j:=k) rfl rfl rfl rfl ⟨_,_,rfl,rfl⟩ AdE hk rfl ?_;refine Sa ?_;refine LW.slice_str (i:=k) (j:=s.length) rfl rfl rfl ⟨_,_,rfl,rfl⟩ rfl hk AdE rfl ?_;refine Sa ?_;refine CR λw3 hc a2=>?_;refine Sa ?_;refine QW.body1 rfl rfl ⟨?_,hx.chg.same hc,?_⟩
   ·rw[Q7,a1.1]
   ·rw[←a1.2,←Gv];exact a2
 ·have h1:k=s.length:=by simp at h1;omega
  have a1:=Mh p s k hk a0 (Or.inl h1);refine Sa ?_;refine LW.slice_str (i:=0) (j:=k) rfl rfl rfl rfl ⟨_,_,rfl,rfl⟩ AdE hk rfl ?_;refine Sa ?_;refine LW.slice_str (i:=k) (j:=s.length) rfl rfl rfl ⟨_,_,rfl,rfl⟩ rfl hk AdE rfl ?_;refine Sa ?_;refine CR λw3 hc a2=>?_;refine Sa ?_;refine QW.body1 rfl rfl ⟨?_,hx.chg.same hc,?_⟩
  ·rw[Q7,a1.1]
  ·rw[←a1.2,←Gv];exact a2
def Nv(s:List UInt8):Option Int:=match Lib.atoiAll (As A6 (Mv s)) with
 | .ok n=>some n
 | _=>none
def DX(s:List UInt8):Da:=⟨HM s,(Cf (As Cm (Gr s))).getD 0,IntKind.i64.wrap ((Nv s).getD 0 - 1),Lib.hasPrefix (Hy s) [36],Lib.hasPrefix (Lw s) [36]⟩
def Br(s:List UInt8):Bool:=(Cf (As Cm (Gr s))).isSome&&(Nv s).isSome&&decide (D5 (DX s)=s)&&!decide (s=[])
def R5:Da:=⟨[],0,0,false,false⟩
def H6(s:List UInt8):Value:=if Br s then .tuple #[Nr (DX s),.bool true] else .tuple #[Nr R5,.bool false]
theorem PA(s:List UInt8):EO s=.tuple #[.int .i64 ((Cf s).getD 0),.bool (Cf s).isSome]:=by
 unfold EO;cases Cf s<;>rfl
theorem NT(s:List UInt8):-1000000≤(Cf s).getD 0∧(Cf s).getD 0≤1000000:=by
 unfold Cf
 split
 ·rename_i a;have:=GM [a] 0
  split<;>simp<;>omega
 ·rename_i a b;have:=GM [a,b] 0;have:=GM [a,b] 1
  split<;>simp<;>omega
 ·simp
theorem Ql(s:List UInt8)(hs:s.length≤1000)(w:World)(g:CQ w):AF prog 269 [Ao s] w (λv w'=>v=H6 s∧Ai w w'):=by
 refine Bj func269 ntmps269 ?_;refine Sa ?_;refine Bo λR w1 ay hx hR=>?_;refine Sa ?_;refine Bo λC w2 az ah hC=>?_;have b0:R<C:=by have:=hR.lt;omega
 replace hR:Blk w2 R (Dc R5) 187:=hR.ext ah;replace hC:Blk w2 C (Dc R5) 187:=hC;replace hx:=hx.trans ah;refine Sa ?_;refine CM λX w3 b1 af hX=>?_;have b2:C<X:=by have:=hC.lt;omega
 replace hR:=hR.ext af;replace hC:=hC.ext af;replace hX:Blk w3 X [Ao s] 320:=hX;replace hx:=hx.trans af;refine Sa ?_;refine Ay rfl rfl (Y8 s [33] AdE w3 (g.ext hx)) ?_;rintro v w4 ⟨rfl,ac⟩;replace hR:=hR.ext ac;replace hC:=hC.ext ac;replace hX:=hX.ext ac;replace hx:=hx.trans ac;refine Sl ?_;apply LW.nil;apply QW.then_n;refine CW.cut (ι:=Unit) (λ_ w'=>Ai w w'∧Blk w' R (Dc R5) 187∧Blk w' C [Ao (HM s),.int .i64 0,.int .i64 0,.bool false,.bool false] 187∧Blk w' X [Ao (Hy s)] 320)
  (λ_=>[(0,Ao s),(2,.pointer (some ⟨R,0,none⟩)),(3,.bool false),(4,.pointer (some ⟨C,0,none⟩)),(5,.pointer (some ⟨X,0,none⟩))]) ?_ ?_
 ·refine Sa ?_;refine A8 (λh1=>?_) λh1=>?_
  ·refine Sa ?_;refine CR λw5 ai aj=>?_;replace hR:=hR.chg ai AdG;replace hX:=hX.chg ai AdG;replace hx:=hx.step ai AdG;refine Sa ?_;refine CR λw6 a7 ap=>?_;replace hR:=hR.chg a7 AdG;replace aj:=aj.chg a7 AdG;replace hx:=hx.step a7 AdG;refine Sa ?_;refine QW.head () ⟨hx,hR,?_,?_⟩ Et
   ·simpa[HM,h1,Dc,R5] using aj
   ·simpa[Hy,h1] using ap
  ·refine Sa ?_;refine QW.head () ⟨hx,hR,?_,?_⟩ Et
   ·simpa[HM,h1,Dc,R5] using hC
   ·simpa[Hy,h1] using hX
 clear hx hR hC hX ah af ac;rintro _ w5 ⟨hx,hR,hC,hX⟩;have b3:(Hy s).length≤s.length:=by
  unfold Hy;split
  ·exact WU s [33]
  ·omega
 have ao:(Gr s).length≤1000:=Abr (Gb _ _) AdE;have aq:(Lw s).length≤1000:=Abr (PB _ _) ao;have ar:(Mv s).length≤1000:=Abr (Gb _ _) aq;have b4:(As Cm (Gr s)).length≤1000:=Abr (Kn _ _) ao;have b5:(As A6 (Mv s)).length≤1000:=Abr (Kn _ _) ar;have au:(HM s).length≤1000:=by
  unfold HM;split
  ·exact Abr (WT s [33]) hs
  ·simp
 refine Sa ?_;refine LW.call (fs:=[.pointer (some ⟨X,0,none⟩)]) (cs:=[]) rfl rfl rfl (RR _ X w5 hX) ?_;rintro v w6 ⟨rfl,a7,hX⟩;replace hR:=hR.chg a7 AdG;replace hC:=hC.chg a7 AdG;replace hx:=hx.step a7 AdG;refine Sa ?_;refine CR λw7 ak hC=>?_;replace hR:=hR.chg ak AdG;replace hX:=hX.chg ak AdG;replace hx:=hx.step ak AdG;refine Sa ?_;refine LW.call (fs:=[.pointer (some ⟨X,0,none⟩)]) (cs:=[]) rfl rfl rfl (OY Cm _ EG (Gr s) AdE X w7 hX) ?_;rintro v w8 ⟨rfl,al,hX⟩;replace hR:=hR.chg al AdG;replace hC:=hC.chg al AdG;replace hx:=hx.step al AdG;refine Sa ?_;refine Ay rfl rfl (Qk _ AdE w8) ?_;rintro v w9 ⟨rfl,ag⟩;rw[PA];replace hR:=hR.ext ag;replace hC:=hC.ext ag;replace hX:=hX.ext ag;replace hx:=hx.trans ag;refine Sa ?_;refine LW.call (fs:=[.pointer (some ⟨X,0,none⟩)]) (cs:=[]) rfl rfl rfl (RR (Lw s) X w9 hX) ?_;rintro v b6 ⟨rfl,a8,hX⟩;replace hR:=hR.chg a8 AdG;replace hC:=hC.chg a8 AdG;replace hx:=hx.step a8 AdG;refine Sa ?_;refine CR λav a9 hC=>?_;replace hR:=hR.chg a9 AdG;replace hX:=hX.chg a9 AdG;replace hx:=hx.step a9 AdG;refine Sa ?_;refine LW.call (fs:=[.pointer (some ⟨X,0,none⟩)]) (cs:=[]) rfl rfl rfl (OY A6 _ Oi (Mv s) AdE X av hX) ?_;rintro v aw ⟨rfl,aa,hX⟩;replace hR:=hR.chg aa AdG;replace hC:=hC.chg aa AdG;replace hx:=hx.step aa AdG;refine Sa ?_;refine Ay rfl rfl (HF _ AdE aw (g.ext hx)) ?_;rintro v b7 ⟨hv,a6⟩;replace hR:=hR.ext a6;replace hC:=hC.ext a6;replace hX:=hX.ext a6;replace hx:=hx.trans a6;have b8:=NT (As Cm (Gr s))
 cases a5:Nv s with
 | some z=>
  have hv:v=.tuple #[.int .i64 z,.nilIface]:=by
   unfold Nv at a5;unfold IW at hv
   split at a5
   ·rename_i m hm;rw[hm] at hv;simp only[Aar] at a5;subst a5;exact hv
   ·cases a5
  subst hv;refine Sa ?_;refine LW.arith (op:=.sub) rfl rfl rfl rfl rfl ?_;refine Sa ?_;refine CR λax a3 hC=>?_;replace hR:=hR.chg a3 AdG;replace hx:=hx.step a3 AdG;refine Sa ?_;refine CR λam a4 hC=>?_;replace hR:=hR.chg a4 AdG;replace hx:=hx.step a4 AdG;replace hC:Blk am C (Dc (DX s)) 187:=by
   have e:Dc (DX s)=[Ao (HM s),.int .i64 ((Cf (As Cm (Gr s))).getD 0),.int .i64 (IntKind.i64.wrap (z - 1)),.bool (Lib.hasPrefix (Hy s) [36]),.bool (Lib.hasPrefix (Lw s) [36])]:=by
    simp[Dc,DX,a5]
   rw[e];exact hC
  refine Sa ?_
  cases an:Cf (As Cm (Gr s)) with
  | none=>
   have a2:Br s=false:=by simp[Br,an]
   refine Sa ?_;refine AD λad a0 a1=>?_;refine Sa ?_;refine QW.body_ct rfl rfl a1 rfl rfl rfl rfl ⟨?_,hx.step a0 AdG⟩;rw[H6,a2]
   rfl
  | some cz=>
   refine Sa ?_;refine Ay rfl rfl (JF (DX s) au am (g.ext hx)) ?_;rintro v b9 ⟨rfl,ab⟩;replace hR:=hR.ext ab;replace hC:=hC.ext ab;replace hx:=hx.trans ab;refine Sa ?_;refine ES (λh1=>?_) λh1=>?_
   ·have a2:Br s=false:=by
     have h1:¬D5 (DX s)=s:=by simpa using h1
     simp[Br,h1]
    refine Sa ?_;refine AD λad a0 a1=>?_;refine Sa ?_;refine QW.body_ct rfl rfl a1 rfl rfl rfl rfl ⟨?_,hx.step a0 AdG⟩;rw[H6,a2];rfl
   ·have h1:D5 (DX s)=s:=by simpa using h1
    refine Sa ?_;refine A8 (λh2=>?_) λh2=>?_
    ·have a2:Br s=false:=by
      have h2:s=[]:=by simpa using h2
      simp[Br,h2]
     refine Sa ?_;refine AD λad a0 a1=>?_;refine Sa ?_;refine QW.body_ct rfl rfl a1 rfl rfl rfl rfl ⟨?_,hx.step a0 AdG⟩;rw[H6,a2];rfl
    ·have h2:¬s=[]:=by simpa using h2
     have ae:Br s=true:=by simp[Br,an,a5,h1,h2]
     refine Sa ?_;refine AD λad a0 a1=>?_;refine Sa ?_;refine QW.body_ct rfl rfl a1 rfl rfl rfl rfl ⟨?_,hx.step a0 AdG⟩;rw[H6,if_pos ae]
     rfl
 | none=>
  have hv:∃z t x,v=.tuple #[.int .i64 z,.iface t x]:=by
   unfold Nv at a5;unfold IW at hv;cases ha:Lib.atoiAll (As A6 (Mv s))<;>simp only[ha,reduceCtorEq] at a5 hv<;>exact hv
  obtain⟨z,te,xe,rfl⟩:=hv;have a2:Br s=false:=by simp[Br,a5]
  refine Sa ?_;refine LW.arith (op:=.sub) rfl rfl rfl rfl rfl ?_;refine Sa ?_;refine CR λax a3 hC=>?_;replace hR:=hR.chg a3 AdG;replace hx:=hx.step a3 AdG;refine Sa ?_;refine CR λam a4 hC=>?_;replace hR:=hR.chg a4 AdG;replace hx:=hx.step a4 AdG
  cases an:Cf (As Cm (Gr s)) with
  | none=>
   refine Sa ?_;refine AD λad a0 a1=>?_;refine Sa ?_;refine QW.body_ct rfl rfl a1 rfl rfl rfl rfl ⟨?_,hx.step a0 AdG⟩;rw[H6,a2]
   rfl
  | some cz=>
   refine Sa ?_;refine AD λad a0 a1=>?_;refine Sa ?_;refine QW.body_ct rfl rfl a1 rfl rfl rfl rfl ⟨?_,hx.step a0 AdG⟩;rw[H6,a2];rfl
theorem JJ{l:List UInt8}{i:Nat}{c:UInt8}(hi:i<l.length):Aj l i=(c.toNat:Int)↔l[i]?=some c:=by
 rw[DW hi,Aap hi];constructor
 ·intro h;have:l[i].toNat=c.toNat:=AdE
  rw[Ad7.1 this]
 ·intro h;simp only[Aar] at h;rw[h]
theorem XB(s:List UInt8)(i:Nat):Lib.occAt s [33] i=decide (s[i]?=some 33):=by
 unfold Lib.occAt
 cases h:s.drop i with
 | nil=>
  have:s.length≤i:=by
   have:=congrArg List.length h;simp at this;omega
  simp[Abs this]
 | cons c r=>
  have a0:i<s.length:=by
   have:=congrArg List.length h;simp at this;omega
  have:s[i]?=some c:=by
   have:=congrArg (λl:List UInt8=>l[0]?) h
   simpa using this
  rw[this];rw[AcT];simp[List.isPrefixOf];exact eq_comm
theorem Vi{s:List UInt8}{k:Nat}(hk:k<s.length)(h:Aj s k=33)(hn:∀j,j<k→Aj s j≠33):Lib.cut s [33]=(s.take k,s.drop (k+1),true):=by
 have hi:Lib.index s [33]=k:=by
  refine Lib.index_hit (λj hj=>?_) AdE ?_
  ·rw[XB,decide_eq_false_iff_not];intro hh;exact hn j hj ((JJ (c:=33) AdE).2 hh)
  ·rw[XB,decide_eq_true_eq];exact(JJ (c:=33) hk).1 h
 unfold Lib.cut;rw[hi,if_pos AdE];simp
theorem WV{s:List UInt8}(hn:∀j,j<s.length→Aj s j≠33):Lib.cut s [33]=(s,[],false):=by
 have hi:Lib.index s [33]=-1:=by
  refine Lib.index_past (i:=s.length) AdM (λj hj=>?_) AdM;rw[XB,decide_eq_false_iff_not];intro hh;exact hn j hj ((JJ (c:=33) hj).2 hh)
 unfold Lib.cut;rw[hi,if_neg AdE]
theorem XP(l:List UInt8):Lib.hasPrefix l [36]=decide (0<l.length∧Aj l 0=36):=by
 cases l with
 | nil=>rfl
 | cons c r=>
  rw[AcT];have:=JJ (l:=c::r) (i:=0) (c:=36) AdM;simp[Lib.hasPrefix,List.isPrefixOf];rw[show(36:Int)=(((36:UInt8).toNat:Nat):Int) from rfl,this];simp[eq_comm]
theorem Yx(l:List UInt8):Lib.trimPrefix l [36]=if 0<l.length∧Aj l 0=36 then l.drop 1 else l:=by
 unfold Lib.trimPrefix;rw[XP];simp only[decide_eq_true_eq];rfl
def d3(n:Nat):List UInt8:=
 if n<10 then[ch (48+(n:Int))] else if n<100 then[ch (48+((n / 10:Nat):Int)),ch (48+(n:Int) % 10)] else[ch (48+((n / 100:Nat):Int)),ch (48+((n / 10:Nat):Int) % 10),ch (48+(n:Int) % 10)]
theorem CH{u:Nat}(h:u<10):Lib.decDigits u=[ch (48+(u:Int))]:=by
 rw[Lib.decDigits,dif_pos h];rfl
theorem DZ{u:Nat}(h:10≤u):Lib.decDigits u=Lib.decDigits (u / 10)++[ch (48+(u:Int) % 10)]:=by
 rw[Lib.decDigits,dif_neg AdE]
 congr 2
theorem Aa3{n:Nat}(h:n<1000):Lib.decDigits n=d3 n:=by
 unfold d3
 split
 ·rename_i h1;exact CH h1
 ·rename_i h1;rw[DZ AdE]
  split
  ·rw[CH AdE];rfl
  ·rw[DZ AdE,CH AdE];have:n / 10 / 10=n / 100:=AdE
   rw[this];rfl
def Rn(n:Nat):Bool:=(d3 n).all (λc=>A6 (c.toNat:Int))&&decide (0<(d3 n).length)&&decide ((d3 n).length≤3)&&decide (Lib.atoiAll (d3 n)=.ok (n:Int))
theorem S3:∀n:Fin 1000,Rn n.val=true:=by decide +kernel
theorem YN{z:Int}(h0:0≤z)(h1:z<1000):Lib.itoa z=d3 z.toNat:=by
 unfold Lib.itoa;rw[if_neg AdE,Aa3 AdE]
theorem I4{z:Int}(h0:0≤z)(h1:z<1000):(∀c∈Lib.itoa z,A6 (c.toNat:Int)=true)∧0<(Lib.itoa z).length∧(Lib.itoa z).length≤3∧Lib.atoiAll (Lib.itoa z)=.ok z:=by
 have:=S3 ⟨z.toNat,by omega⟩;rw[YN h0 h1];simp only[Rn,AaY,Ac1,decide_eq_true_eq] at this;obtain⟨⟨⟨a1,a2⟩,a3⟩,a4⟩:=this;exact⟨a1,a2,a3,by rw[a4];congr 1;omega⟩
def ZE(n:Nat):Bool:=(Gu (n:Int)).all (λc=>Cm (c.toNat:Int))&&decide (0<(Gu (n:Int)).length)&&decide (Cf (Gu (n:Int))=some (n:Int))
theorem WG:∀n:Fin 702,ZE n.val=true:=by decide +kernel
theorem Pk{z:Int}(h0:0≤z)(h1:z≤701):(∀c∈Gu z,Cm (c.toNat:Int)=true)∧0<(Gu z).length∧Cf (Gu z)=some z:=by
 have:=WG ⟨z.toNat,by omega⟩;have e:((z.toNat:Nat):Int)=z:=AdE
 simp only[ZE,e,AaY,Ac1,decide_eq_true_eq] at this;exact⟨this.1.1,this.1.2,this.2⟩
theorem Ez{r:Da}(h:Bz r=true):(r.sheet=[]∨Do r.sheet=true)∧0≤r.col∧r.col≤701∧0≤r.row∧r.row≤998:=by
 simp only[Bz,AaY,AbP,decide_eq_true_eq] at h;exact⟨h.1.1.1.1,h.1.1.1.2,h.1.1.2,h.1.2,h.2⟩
theorem FB{l:List UInt8}(h:Do l=true):l≠[]∧l.length≤12∧∀j,j<l.length→W8 (Aj l j)=true:=by
 simp only[Do,AaY,decide_eq_true_eq] at h;exact⟨h.1.1.1,h.1.1.2,h.2⟩
def ER(r:Da):List UInt8:=Lib.itoa (r.row+1)
def Ep(r:Da):List UInt8:=DB r.ar++ER r
def HA(r:Da):List UInt8:=Gu r.col++Ep r
def Eo(r:Da):List UInt8:=DB r.ac++HA r
theorem Yv(r:Da):BR r=(if r.sheet=[] then[] else r.sheet++[33])++Eo r:=by
 simp[BR,Eo,HA,Ep,ER]
theorem KX(p:Int→Bool):∀(a b:List UInt8),(∀c∈a,p (c.toNat:Int)=true)→(b=[]∨p (Aj b 0)=false)→As p (a++b)=a∧H7 p (a++b)=b
 | [],b,_,hb=>by
  cases b with
  | nil=>simp[As,H7]
  | cons c r=>
   have hc:p (c.toNat:Int)=false:=by
    rcases hb with hb | hb
    ·cases hb
    ·exact hb
   simp[As,H7,hc]
 | c::a,b,ha,hb=>by
  have hc:=ha c AdM;obtain⟨h1,h2⟩:=KX p a b (λd hd=>ha d (by simp[hd])) hb;simp only[As,H7] at h1 h2 ⊢;simp[hc,h1,h2]
theorem BG{a b:List UInt8}{j:Nat}(h:j<a.length):Aj (a++b) j=Aj a j:=by
 unfold Aj;rw[AaF,AaF,Abk h]
theorem F3{l:List UInt8}{j:Nat}(h:j<l.length):∃c∈l,Aj l j=(c.toNat:Int):=⟨l[j],AbL h,DW h⟩
theorem Uf(z:Int)(h:Cm z=true):z≠33∧z≠36∧A6 z=false:=by
 simp[Cm] at h;refine⟨by omega,by omega,?_⟩;simp[A6];omega
theorem Uj(z:Int)(h:A6 z=true):z≠33∧z≠36∧Cm z=false:=by
 simp[A6] at h;refine⟨by omega,by omega,?_⟩;simp[Cm];omega
theorem ZZ(z:Int)(h:W8 z=true):z≠33∧z≠36:=by
 simp[W8,LP,Cm,A6] at h;omega
theorem AaX{r:Da}(h:Bz r=true):∀c∈Eo r,(c.toNat:Int)≠33:=by
 obtain⟨_,c0,c1,r0,r1⟩:=Ez h;obtain⟨hc,_,_⟩:=Pk c0 c1;obtain⟨hd,_,_,_⟩:=I4 (z:=r.row+1) AdE AdE;intro c hm;have mk:∀b,c∈DB b→(c.toNat:Int)≠33:=λb hb=>by
  cases b
  ·simp[DB] at hb
  ·simp[DB] at hb;subst hb;decide
 simp only[Eo,HA,Ep,ER,Abf] at hm;rcases hm with hm | hm | hm | hm
 ·exact mk _ hm
 ·exact(Uf _ (hc c hm)).1
 ·exact mk _ hm
 ·exact(Uj _ (hd c hm)).1
theorem AaB{r:Da}(h:Bz r=true) :
  HM (BR r)=r.sheet∧Hy (BR r)=Eo r∧Lib.hasPrefix (Eo r) [36]=r.ac∧Gr (BR r)=HA r∧As Cm (HA r)=Gu r.col∧Lw (BR r)=Ep r∧
  Lib.hasPrefix (Ep r) [36]=r.ar∧Mv (BR r)=ER r∧As A6 (ER r)=ER r:=by
 obtain⟨hs,c0,c1,r0,r1⟩:=Ez h;obtain⟨hc,a2,_⟩:=Pk c0 c1;obtain⟨hd,a3,_,_⟩:=I4 (z:=r.row+1) AdE AdE;have a4:=AaX h;have e0:HM (BR r)=r.sheet∧Hy (BR r)=Eo r:=by
  rw[Yv];by_cases a1:r.sheet=[]
  ·rw[if_pos a1,Ab5];have a0:=WV (s:=Eo r) (λj hj=>by
    obtain⟨c,hm,e⟩:=F3 hj;rw[e];exact a4 c hm)
   simp[HM,Hy,a0,a1]
  ·rw[if_neg a1];have hn:Do r.sheet=true:=hs.resolve_left a1;obtain⟨_,_,a5⟩:=FB hn;have a0:=Vi (s:=r.sheet++[33]++Eo r) (k:=r.sheet.length) AdM
    (by
     refine(JJ (c:=33) AdM).2 ?_;simp)
    (λj hj=>by
     rw[AaR,BG hj];exact(ZZ _ (a5 j hj)).1)
   have t1:(r.sheet++[33]++Eo r).take r.sheet.length=r.sheet:=by rw[AaR,AdB]
   have t2:(r.sheet++[33]++Eo r).drop (r.sheet.length+1)=Eo r:=by
    have:(r.sheet++[33]).length=r.sheet.length+1:=AdM
    rw[←this,Ads]
   rw[t1,t2] at a0;unfold HM Hy;rw[a0];exact⟨rfl,rfl⟩
 have bcol:Aj (HA r) 0≠36:=by
  obtain⟨c,hm,e⟩:=F3 a2;rw[HA,BG a2,e];exact(Uf _ (hc c hm)).2.1
 have bdig:Aj (ER r) 0≠36∧Cm (Aj (ER r) 0)=false:=by
  obtain⟨c,hm,e⟩:=F3 a3;rw[ER,e];exact(Uj _ (hd c hm)).2
 have p0:Lib.hasPrefix (Eo r) [36]=r.ac∧Lib.trimPrefix (Eo r) [36]=HA r:=by
  rw[XP,Yx]
  cases ha:r.ac with
  | true=>
   have e:Eo r=36::HA r:=by simp[Eo,DB,ha]
   have b:Aj (36::HA r) 0=36:=rfl
   rw[e];simp[b]
  | false=>
   have e:Eo r=HA r:=by simp[Eo,DB,ha]
   rw[e];simp[bcol]
 have p2:Lib.hasPrefix (Ep r) [36]=r.ar∧Lib.trimPrefix (Ep r) [36]=ER r:=by
  rw[XP,Yx]
  cases ha:r.ar with
  | true=>
   have e:Ep r=36::ER r:=by simp[Ep,DB,ha]
   have b:Aj (36::ER r) 0=36:=rfl
   rw[e];simp[b]
  | false=>
   have e:Ep r=ER r:=by simp[Ep,DB,ha]
   rw[e];simp[bdig.1]
 have a6:Cm (Aj (Ep r) 0)=false:=by
  cases ha:r.ar with
  | true=>
   have e:Ep r=36::ER r:=by simp[Ep,DB,ha]
   rw[e];rfl
  | false=>
   have e:Ep r=ER r:=by simp[Ep,DB,ha]
   rw[e];exact bdig.2
 have s1:=KX Cm (Gu r.col) (Ep r) hc (Or.inr a6);have s3:=KX A6 (ER r) [] hd (Or.inl rfl);rw[Aby] at s3;have k1:Gr (BR r)=HA r:=by rw[Gr,e0.2,p0.2]
 have k2:Lw (BR r)=Ep r:=by rw[Lw,k1];exact s1.2
 exact⟨e0.1,e0.2,p0.1,k1,s1.1,k2,p2.1,by rw[Mv,k2,p2.2],s3.1⟩
theorem N9{r:Da}(h:Bz r=true):BR r≠[]:=by
 obtain⟨_,_,_,r0,r1⟩:=Ez h;obtain⟨_,a0,_,_⟩:=I4 (z:=r.row+1) AdE AdE;intro he;have:=congrArg List.length he;simp[BR] at this;have h2:=this.2.2.2.2;rw[h2] at a0;simp at a0
theorem Wa{r:Da}(h:Bz r=true):Br (BR r)=true∧DX (BR r)=r:=by
 obtain⟨q1,q2,q3,q4,q5,q6,q7,q8,q9⟩:=AaB h;obtain⟨_,c0,c1,r0,r1⟩:=Ez h;obtain⟨_,_,a0⟩:=Pk c0 c1;obtain⟨_,_,_,a2⟩:=I4 (z:=r.row+1) AdE AdE;have a1:Nv (BR r)=some (r.row+1):=by
  unfold Nv;rw[q8,q9,ER,a2]
 have hv:DX (BR r)=r:=by
  unfold DX;rw[q1,q4,q5,a0,a1,q2,q3,q6,q7];have:IntKind.i64.wrap ((some (r.row+1)).getD 0 - 1)=r.row:=by
   rw[Ac2,show r.row+1 - 1=r.row by omega];exact Y2 AdE AdE
  rw[this];rfl
 refine⟨?_,hv⟩;unfold Br;rw[hv,q4,q5,a0,a1,D5,if_pos h];simp[N9 h]
theorem Zj{s:List UInt8}(h:Br s=true):Bz (DX s)=true∧BR (DX s)=s:=by
 simp only[Br,AaY,decide_eq_true_eq,AcG,decide_eq_false_iff_not] at h;obtain⟨⟨_,h1⟩,h2⟩:=h;unfold D5 at h1
 split at h1
 ·rename_i hm;exact⟨hm,h1⟩
 ·exact absurd h1.symm h2
theorem Jd{u:Nat}(h:10≤u):Lib.decDigits u=Lib.decDigits (u / 10)++[ch (48+(u:Int) % 10)]:=by
 rw[Lib.decDigits,dif_neg AdE]
 congr 2
theorem Hz{u:Nat}(h:u<10):Lib.decDigits u=[ch (48+(u:Int))]:=by
 rw[Lib.decDigits,dif_pos h];rfl
theorem So(k:Int)(h0:0≤k)(h1:k≤9223372036854775807)(w:World):AF prog 24 [.int .i64 k] w (λv w'=>v=Ao (Lib.itoa k)∧Ai w w'):=by
 obtain⟨m,rfl⟩:=Aca h0;have a2:Lib.itoa (m:Int)=Lib.decDigits m:=by unfold Lib.itoa;rw[if_neg AdE];rfl
 have a0:=Lib.itoa_length_le (m:Int) AdE h1;rw[a2] at a0;rw[a2];refine Bj func24 ntmps24 ?_;refine Sa ?_;refine CW.loop (ι:=Nat×List UInt8) (λi w'=>i.1≤m∧Ai w w'∧Lib.decDigits m=Lib.decDigits i.1++i.2) (λi=>[(0,.int .i64 (m:Int)),(3,.int .u64 (i.1:Int)),(4,Ao i.2)]) (λi=>i.1) (m,[]) ⟨by simp,Chg.refl _ _,by simp⟩ CF ?_;rintro⟨u,acc⟩ w1 ⟨hu,hx,hd⟩;simp only at hu hd;have a3:acc.length≤21:=by
  have:=congrArg List.length hd;rw[Aaq] at this;omega
 refine Sa ?_;refine A8 (λh2=>?_) λh2=>?_
 ·have h2:10≤u:=by simp at h2;omega
  refine Sa ?_;refine Dt λb w2 hb a1 hB=>?_;replace hB:Blk w2 b [.int .u8 (48+(u:Int) % 10)] 5:=hB;replace hx:=hx.trans a1;refine Sa ?_;refine QW.again (u / 10,[ch (48+(u:Int) % 10)]++acc) ⟨?_,hx,?_⟩ CF ?_
  ·simp only;omega
  ·simp only;rw[hd,Jd h2];simp
  ·simp only;omega
 ·have h2:u<10:=by simp at h2;omega
  refine Sa ?_;refine Dt λb w2 hb a1 hB=>?_;replace hB:Blk w2 b [.int .u8 (48+(u:Int))] 5:=hB;replace hx:=hx.trans a1;refine Sa ?_;refine QW.body1 rfl rfl ⟨?_,hx⟩;rw[hd,Hz h2]
def Cq(acc:Int)(l:List UInt8):Int:=l.foldl (λa c=>10*a+((c.toNat:Int) - 48)) acc
theorem IC(acc:Int)(l:List UInt8)(c:UInt8):Cq acc (l++[c])=10*Cq acc l+((c.toNat:Int) - 48):=by simp[Cq]
theorem Aa8{s:List UInt8}(h:Br s=false):H6 s=.tuple #[Nr R5,.bool false]:=by rw[H6,h];rfl
theorem ID(l:List UInt8)(h:∀j,j<l.length→A6 (Aj l j)=true):0≤Cq 0 l∧Cq 0 l<10 ^ l.length:=by
 have key:∀(n:Nat) (l:List UInt8),l.length=n→(∀j,j<l.length→A6 (Aj l j)=true)→0≤Cq 0 l∧Cq 0 l<10 ^ n:=by
  intro n
  induction n with
  | zero=>
   intro l hl _;have:l=[]:=Abt hl
   subst this;simp[Cq]
  | succ n ih=>
   intro l hl h;have a0:l≠[]:=by intro h0;rw[h0] at hl;simp at hl
   have e:l=l.dropLast++[l.getLast a0]:=(AcB a0).symm;have a1:l.dropLast.length=n:=AdG
   have h1:=ih l.dropLast a1 (λj hj=>by
    have:=h j AdE;rw[e,BG hj] at this;exact this)
   have h2:A6 (((l.getLast a0).toNat:Nat):Int)=true:=by
    have:=h n AdE;have e3:Aj l n=((l.getLast a0).toNat:Int):=by
     rw[DW AdE]
     congr 2
     rw[List.getLast_eq_getElem]
     congr 1
     omega
    rw[e3] at this;exact this
   have h3:Cq 0 l=10*Cq 0 l.dropLast+(((l.getLast a0).toNat:Int) - 48):=by
    conv=>lhs;rw[e]
    exact IC _ _ _
   simp only[A6,AaY,decide_eq_true_eq] at h2;rw[h3,Int.pow_succ];constructor<;>omega
 exact key l.length l rfl h
def Gq(c:Int):Bool:=Cm c||(decide (97≤c)&&decide (c≤122))||decide (c=36)
def Kx(c:Int):Bool:=Gq c||A6 c||decide (c=33)
def JA(c:Int):Bool:=decide (c=32)
def Z7(c:Int):Bool:=Cm c||A6 c
def NH(l:List UInt8):Bool:=decide (l≠[])&&decide (l.length≤12)&&Cm (Aj l 0)&&decide (∀j,j<l.length→Z7 (Aj l j)=true)
theorem YG:NH []=false:=rfl
theorem Xf{l:List UInt8}(h:12<l.length):NH l=false:=by simp[NH];intros;omega
theorem Vq{l:List UInt8}(h:Cm (Aj l 0)=false):NH l=false:=by simp[NH,h]
theorem ZT{l:List UInt8}{k:Nat}(hk:k<l.length)(h:Z7 (Aj l k)=false):NH l=false:=by
 simp only[NH,Adh,decide_eq_false_iff_not];exact Or.inr λhh=>by rw[hh k hk] at h;cases h
theorem Xg{l:List UInt8}(h0:l≠[])(h1:l.length≤12)(h2:Cm (Aj l 0)=true)(h3:∀j,j<l.length→Z7 (Aj l j)=true):NH l=true:=by
 simp[NH,h0,h1,h2];exact h3
structure Ap where
 kind:Int
 text:List UInt8
 num:Int
 ref:Da
 at_:Int
deriving DecidableEq
def DA(x:Ap):List Value:=[.int .i64 x.kind,Ao x.text,.int .i64 x.num,Ao x.ref.sheet,.int .i64 x.ref.col,.int .i64 x.ref.row,.bool x.ref.ac,.bool x.ref.ar,.int .i64 x.at_]
def Ba:Da:=⟨[],0,0,false,false⟩
theorem GL(l:List UInt8)(a k:Nat):Aj (l.drop a) k=Aj l (a+k):=by
 simp[Aj]
theorem Ui{s:List UInt8}{a k:Nat}:cut s a k=(s.take k).drop a:=by rw[cut,List.drop_take]
theorem OP(p:Int→Bool)(s:List UInt8)(a k:Nat)(ha:a≤k)(hk:k≤s.length)(hall:∀j,a≤j→j<k→p (Aj s j)=true)(h:k=s.length∨p (Aj s k)=false) :
  (s.take k).drop a=As p (s.drop a)∧k=a+(As p (s.drop a)).length:=by
 have:=Mh p (s.drop a) (k - a) AdG (λj hj=>by rw[GL];exact hall _ AdE AdE) (by
  rcases h with h | h
  ·exact Or.inl AdG
  ·exact Or.inr (by rw[GL,show a+(k - a)=k by omega];exact h))
 have e:(s.take k).drop a=(s.drop a).take (k - a):=by rw[List.drop_take]
 have h2:=congrArg List.length this.1;rw[e,this.1];refine⟨rfl,?_⟩;rw[←h2];simp;omega
def P0(l:List UInt8):Option (Ap×Nat):=
 let sp:=As A6 l
 match Lib.atoiAll sp with
 | .ok z=>if Aj sp 0≠48∨sp.length=1 then some (⟨1,[],z,Ba,0⟩,sp.length) else none
 | _=>none
def Ip(l:List UInt8):Option (Ap×Nat):=
 let sp:=As Kx l
 if Br sp then some (⟨4,[],0,DX sp,0⟩,sp.length) else if NH sp then some (⟨3,sp,0,Ba,0⟩,sp.length) else none
def Jc:List UInt8:=[35,82,69,70,33]
def Bk:List (List UInt8):=[[60,62],[60,61],[62,61],[43],[45],[42],[47],[38],[61],[60],[62],[40],[41],[44],[58]]
def H9(l:List UInt8):Option (Ap×Nat):=
 if Lib.hasPrefix l Jc then some (⟨6,[],0,Ba,0⟩,5) else(Bk.find? λs=>Lib.hasPrefix l s).map λs=>(⟨5,s,0,Ba,0⟩,s.length)
def AP:List UInt8→Option (List UInt8×Nat)
 | []=>none
 | [c]=>if c=34 then some ([],1) else none
 | c::d::r=>
  if c=34 then(if d=34 then(AP r).map λx=>(34::x.1,x.2+2) else some ([],1))
  else if c<32 then none else(AP (d::r)).map λx=>(c::x.1,x.2+1)
def GF(l:List UInt8):Option (Ap×Nat):=(AP (l.drop 1)).map λx=>(⟨2,x.1,0,Ba,0⟩,x.2+1)
def Dp(l:List UInt8):Option (Ap×Nat):=
 if A6 (Aj l 0) then P0 l else if Aj l 0=34 then GF l else if Gq (Aj l 0) then Ip l else H9 l
theorem Uw{l:List UInt8}{z:Int}(h:Lib.atoiAll (As A6 l)=.ok z):P0 l=if Aj (As A6 l) 0≠48∨(As A6 l).length=1 then some (⟨1,[],z,Ba,0⟩,(As A6 l).length) else none:=by
 simp only[P0,h]
theorem Rk{l:List UInt8}(h:∀z,Lib.atoiAll (As A6 l)≠.ok z):P0 l=none:=by
 unfold P0
 cases e:Lib.atoiAll (As A6 l) with
 | ok z=>exact absurd e (h z)
 | _=>simp only[e]
theorem M3{α:Type}(p:α→Bool)(d:α):∀(l:List α) (k:Nat),k<l.length→(∀j,j<k→p (l.getD j d)=false)→p (l.getD k d)=true→l.find? p=some (l.getD k d)
 | [],k,hk,_,_=>by simp at hk
 | x::r,0,_,_,h=>by
  have h:p x=true:=h
  simp[List.find?,h]
 | x::r,k+1,hk,hn,h=>by
  have h0:p x=false:=hn 0 AdE;have ih:=M3 p d r k (by simpa using hk) (λj hj=>hn (j+1) AdE) h;simp only[List.find?,h0];exact ih
theorem Ol{α:Type}(p:α→Bool)(d:α):∀(l:List α),(∀j,j<l.length→p (l.getD j d)=false)→l.find? p=none
 | [],_=>rfl
 | x::r,hn=>by
  have h0:p x=false:=hn 0 AdM;simp only[List.find?,h0];exact Ol p d r (λj hj=>hn (j+1) AdG)
theorem Nl{s p:List UInt8}(h:Lib.hasPrefix s p=true):p.length≤s.length:=(Adt.1 h).length_le
theorem Kq{p:Int→Bool}{l:List UInt8}(hl:0<l.length)(h:p (Aj l 0)=true):0<(As p l).length∧Aj (As p l) 0=Aj l 0:=by
 cases l with
 | nil=>simp at hl
 | cons c r=>
  have hc:p (c.toNat:Int)=true:=h;simp[As,hc];rfl
theorem IP(p:Int→Bool)(l:List UInt8):(As p l).length≤l.length:=(List.takeWhile_prefix _).length_le
theorem Iy{s:List UInt8}{i:Nat}(h:i<s.length):∃c,s.drop i=c::s.drop (i+1)∧Aj s i=(c.toNat:Int):=
 ⟨s[i],Ace h,DW h⟩
theorem Yy{c:UInt8}(h:(c.toNat:Int)=34):c=34:=Ad7.1 (by simpa using(by omega:c.toNat=34))
theorem PT{c:UInt8}(h:(c.toNat:Int)≠34):c≠34:=by
 rintro rfl;exact h rfl
theorem Zt{c:UInt8}(h:(c.toNat:Int)<32):c<32:=AcC.2 (by simpa using(by omega:c.toNat<32))
theorem Zs{c:UInt8}(h:¬(c.toNat:Int)<32):¬c<32:=λhh=>h (by have:=AcC.1 hh;simp at this;omega)
theorem Yj{s:List UInt8}{i:Nat}(h:s.length≤i):AP (s.drop i)=none:=by
 rw[AbU h];rfl
theorem Ym{s:List UInt8}{i:Nat}(h:i+1<s.length)(h1:Aj s i=34)(h2:Aj s (i+1)=34):AP (s.drop i)=(AP (s.drop (i+2))).map λx=>(34::x.1,x.2+2):=by
 obtain⟨c,e,hc⟩:=Iy (show i<s.length by omega);obtain⟨d,e2,hd⟩:=Iy h;rw[e,e2];obtain rfl:=Yy (hc.symm.trans h1);obtain rfl:=Yy (hd.symm.trans h2);simp[AP]
theorem N4{s:List UInt8}{i:Nat}(h:i<s.length)(h1:Aj s i=34)(h2:i+1<s.length→Aj s (i+1)≠34):AP (s.drop i)=some ([],1):=by
 obtain⟨c,e,hc⟩:=Iy h;rw[e];obtain rfl:=Yy (hc.symm.trans h1);by_cases hl:i+1<s.length
 ·obtain⟨d,e2,hd⟩:=Iy hl;rw[e2];have:=PT (c:=d) (by rw[←hd];exact h2 hl);simp[AP,this]
 ·rw[AbU AdE];simp[AP]
theorem Yk{s:List UInt8}{i:Nat}(h:i<s.length)(h1:Aj s i<32):AP (s.drop i)=none:=by
 obtain⟨c,e,hc⟩:=Iy h;rw[e];have h3:=Zt (c:=c) (by rw[←hc];exact h1);have h4:=PT (c:=c) AdE
 cases s.drop (i+1) with
 | nil=>simp[AP,h4]
 | cons d r=>simp[AP,h4,h3]
theorem Zo{s:List UInt8}{i:Nat}(h:i<s.length)(h1:Aj s i≠34)(h2:¬Aj s i<32):AP (s.drop i)=(AP (s.drop (i+1))).map λx=>(ch (Aj s i)::x.1,x.2+1):=by
 obtain⟨c,e,hc⟩:=Iy h;rw[e];have h3:=Zs (c:=c) (by rw[←hc];exact h2);have h4:=PT (c:=c) (by rw[←hc];exact h1);have h5:ch (Aj s i)=c:=by rw[hc];simp[ch]
 rw[h5]
 cases s.drop (i+1) with
 | nil=>simp[AP,h4]
 | cons d r=>simp[AP,h4,h3]
def GK(s:List UInt8)(a i:Nat)(out:List UInt8):Prop:=a≤i∧AP (s.drop a)=(AP (s.drop i)).map λx=>(out++x.1,x.2+(i - a))
theorem GK.start(s:List UInt8)(a:Nat):GK s a a []:=⟨Abi _,by simp⟩
theorem GK.go{s:List UInt8}{a i j:Nat}{out:List UInt8}{c:UInt8}(h:GK s a i out)(hj:i≤j)(e:AP (s.drop i)=(AP (s.drop j)).map λx=>(c::x.1,x.2+(j - i))):GK s a j (out++[c]):=by
 refine⟨by have:=h.1;omega,?_⟩;rw[h.2,e,Option.map_map]
 congr 1
 funext x
 have:=h.1;simp;omega
def Gh(l:List UInt8)(a:Nat):Option (List Ap):=
 match _h:l.drop (As JA l).length with
 | []=>some [⟨0,[],0,Ba,((a+(As JA l).length:Nat):Int)⟩]
 | c::r=>match Dp (c::r) with
  | none=>none
  | some (t,k)=>if _hk:k=0 then none else(Gh ((c::r).drop k) (a+(As JA l).length+k)).map ({t with at_:=((a+(As JA l).length:Nat):Int)}::·)
 termination_by l.length
 decreasing_by
 have:=congrArg List.length _h;simp at this;simp;omega
def Jq(s:List UInt8):Option (List Ap):=Gh s 0
theorem G2{l:List UInt8}{a:Nat}(h:l.drop (As JA l).length=[]):Gh l a=some [⟨0,[],0,Ba,((a+(As JA l).length:Nat):Int)⟩]:=by
 rw[Gh]
 split
 ·rfl
 ·rename_i c r e;rw[h] at e;cases e
theorem HR{l l':List UInt8}{a:Nat}(h:l.drop (As JA l).length=l')(hl:l'≠[])(h1:Dp l'=none):Gh l a=none:=by
 rw[Gh]
 split
 ·rename_i e;rw[h] at e;exact absurd e hl
 ·rename_i c r e;rw[h] at e;subst e;rw[h1]
theorem I5{l l':List UInt8}{a k:Nat}{t:Ap}(h:l.drop (As JA l).length=l')(hl:l'≠[])(h1:Dp l'=some (t,k))(hk:0<k) :
  Gh l a=(Gh (l'.drop k) (a+(As JA l).length+k)).map ({t with at_:=((a+(As JA l).length:Nat):Int)}::·):=by
 rw[Gh]
 split
 ·rename_i e;rw[h] at e;exact absurd e hl
 ·rename_i c r e;rw[h] at e;subst e;rw[h1];simp only;rw[dif_neg AdE]
theorem MW{l:List UInt8}{t:Ap}{k:Nat}(h:P0 l=some (t,k)):k=(As A6 l).length∧t.kind=1:=by
 unfold P0 at h;simp only at h
 split at h
 ·split at h
  ·simp only[Aar,Abz] at h;exact⟨h.2.symm,by rw[←h.1]⟩
  ·cases h
 ·cases h
theorem Tw:Br []=false:=by decide +kernel
theorem OZ{l:List UInt8}{t:Ap}{k:Nat}(h:Ip l=some (t,k)):k=(As Kx l).length∧0<k:=by
 unfold Ip at h;simp only at h
 split at h
 ·rename_i hr;simp only[Aar,Abz] at h;refine⟨h.2.symm,?_⟩;rw[←h.2]
  cases e:As Kx l with
  | nil=>rw[e,Tw] at hr;cases hr
  | cons _ _=>simp
 ·split at h
  ·rename_i hr;simp only[Aar,Abz] at h;refine⟨h.2.symm,?_⟩;rw[←h.2]
   cases e:As Kx l with
   | nil=>rw[e,YG] at hr;cases hr
   | cons _ _=>simp
  ·cases h
theorem Wz{l:List UInt8}{t:Ap}{k:Nat}(h:GF l=some (t,k)):0<k:=by
 unfold GF at h
 cases e:AP (l.drop 1) with
 | none=>rw[e] at h;cases h
 | some x=>
  rw[e] at h;simp only[Ab3,Aar,Abz] at h;omega
theorem Wm{l:List UInt8}{t:Ap}{k:Nat}(h:H9 l=some (t,k)):0<k:=by
 unfold H9 at h
 split at h
 ·simp only[Aar,Abz] at h;omega
 ·cases e:Bk.find? λs=>Lib.hasPrefix l s with
  | none=>rw[e] at h;cases h
  | some x=>
   rw[e] at h;simp only[Ab3,Aar,Abz] at h;have hm:=AcR e;have:∀s∈Bk,0<s.length:=AdH
   have:=this x hm;omega
theorem G6{l:List UInt8}(hl:l≠[]){t:Ap}{k:Nat}(h:Dp l=some (t,k)):0<k:=by
 unfold Dp at h
 split at h
 ·rename_i hd;rw[(MW h).1];exact(Kq (Ab8.2 hl) hd).1
 ·split at h
  ·exact Wz h
  ·split at h
   ·exact(OZ h).2
   ·exact Wm h
theorem PJ:∀(l:List UInt8) {x:List UInt8×Nat},AP l=some x→x.2≤l.length
 | [],x,h=>by simp[AP] at h
 | [c],x,h=>by
  simp only[AP] at h
  split at h
  ·simp only[Aar] at h;subst h;simp
  ·cases h
 | c::d::r,x,h=>by
  simp only[AP] at h
  split at h
  ·split at h
   ·cases e:AP r with
    | none=>rw[e] at h;cases h
    | some y=>
     rw[e] at h;simp only[Ab3,Aar] at h;have:=PJ r e;subst h;simp;omega
   ·simp only[Aar] at h;subst h;simp
  ·split at h
   ·cases h
   ·cases e:AP (d::r) with
    | none=>rw[e] at h;cases h
    | some y=>
     rw[e] at h;simp only[Ab3,Aar] at h;have:=PJ (d::r) e;subst h;simp at this ⊢;omega
theorem U1{l:List UInt8}{t:Ap}{k:Nat}(h:Dp l=some (t,k)):k≤l.length:=by
 unfold Dp at h
 split at h
 ·rw[(MW h).1];exact IP _ _
 ·split at h
  ·unfold GF at h
   cases e:AP (l.drop 1) with
   | none=>rw[e] at h;cases h
   | some x=>
    rw[e] at h;simp only[Ab3,Aar,Abz] at h;have:=PJ _ e
    cases l with
    | nil=>cases e
    | cons c r=>
     simp at this ⊢;omega
  ·split at h
   ·rw[(OZ h).1];exact IP _ _
   ·unfold H9 at h
    split at h
    ·rename_i hp;simp only[Aar,Abz] at h;have:=Nl hp;have h5:Jc.length=5:=rfl;omega
    ·cases e:Bk.find? λs=>Lib.hasPrefix l s with
     | none=>rw[e] at h;cases h
     | some x=>
      rw[e] at h;simp only[Ab3,Aar,Abz] at h;have:=Nl (Ad8 e);omega
theorem QR:∀(n:Nat) (l:List UInt8) (a:Nat) {out:List Ap},l.length≤n→Gh l a=some out→out.length≤l.length+1
 | n,l,a,out,hn,h=>by
  cases e:l.drop (As JA l).length with
  | nil=>
   rw[G2 e] at h;simp only[Aar] at h
   subst h;simp
  | cons c r=>
   have hl:=congrArg List.length e;simp at hl
   cases ho:Dp (c::r) with
   | none=>rw[HR e AdM ho] at h;cases h
   | some x=>
    obtain⟨t,k⟩:=x;have hk:=G6 AdM ho;have hk2:=U1 ho;rw[I5 e AdM ho hk] at h
    cases hr:Gh ((c::r).drop k) (a+(As JA l).length+k) with
    | none=>rw[hr] at h;cases h
    | some y=>
     rw[hr] at h;simp only[Ab3,Aar] at h;subst h
     match n with
     | 0=>omega
     | n+1=>
      have hd:((c::r).drop k).length=r.length+1 - k:=AdM
      have:=QR n ((c::r).drop k) _ AeA hr;simp only[AaL];rw[hd] at this;omega
theorem X0{s:List UInt8}{l:List Ap}(h:Jq s=some l):l.length≤s.length+1:=QR _ s 0 (Abi _) h
def Gm(s:List UInt8)(a:Nat)(out:List Ap):Prop:=Jq s=(Gh (s.drop a) a).map (out++·)
theorem Gm.start(s:List UInt8):Gm s 0 []:=by simp[Gm,Jq]
theorem Gm.end{s:List UInt8}{a:Nat}{out:List Ap}(h:Gm s a out)(he:a+(As JA (s.drop a)).length=s.length):Jq s=some (out++[⟨0,[],0,Ba,(s.length:Int)⟩]):=by
 rw[h,G2 (by rw[Aci,he,Ad4]),he];rfl
theorem Gm.bad{s:List UInt8}{a c:Nat}{out:List Ap}(h:Gm s a out)(he:a+(As JA (s.drop a)).length=c)(hc:c<s.length)(h1:Dp (s.drop c)=none):Jq s=none:=by
 rw[h,HR (l':=s.drop c) (by rw[Aci,he]) (by intro hn;have:=congrArg List.length hn;simp at this;omega) h1];rfl
theorem Gm.go{s:List UInt8}{a c k:Nat}{out:List Ap}{t:Ap}(h:Gm s a out)(he:a+(As JA (s.drop a)).length=c)(hc:c<s.length)(h1:Dp (s.drop c)=some (t,k)):Gm s (c+k) (out++[{t with at_:=(c:Int)}]):=by
 have a0:s.drop c≠[]:=by intro hn;have:=congrArg List.length hn;simp at this;omega
 unfold Gm;rw[h,I5 (l':=s.drop c) (by rw[Aci,he]) a0 h1 (G6 a0 h1),he,Aci,Option.map_map]
 congr 1
 funext x
 simp
theorem O8(acc:Int)(c:UInt8)(r:List UInt8):Cq acc (c::r)=Cq (10*acc+((c.toNat:Int) - 48)) r:=rfl
theorem KM:∀(l:List UInt8) (acc:Int),0≤acc→(∀c∈l,48≤c.toNat)→acc≤Cq acc l
 | [],acc,_,_=>AcK _
 | c::r,acc,h,hd=>by
  rw[O8];have hc:=hd c AdM;have:=KM r (10*acc+((c.toNat:Int) - 48)) AdE (λx hx=>hd x Ae9);omega
theorem Kc:∀(l:List UInt8) (acc:Nat),acc<18446744073709551616→(∀c∈l,48≤c.toNat∧c.toNat≤57)→
  Lib.parseUint10 acc l=if Cq acc l<18446744073709551616 then .ok (Cq acc l).toNat else .range
 | [],acc,h,_=>by
  have:Cq acc []=acc:=rfl;simp only[Lib.parseUint10,this];rw[if_pos AdE]
  rfl
 | c::r,acc,h,hd=>by
  have hc:=hd c AdM;have hr:∀x∈r,48≤x.toNat∧x.toNat≤57:=λx hx=>hd x Ae9;have e:(10*(acc:Int)+((c.toNat:Int) - 48))=((acc*10+(c.toNat - 48):Nat):Int):=AdE
  have hm:=KM r (10*(acc:Int)+((c.toNat:Int) - 48)) AdE (λx hx=>(hr x hx).1);simp only[Lib.parseUint10];rw[if_pos hc,O8]
  split
  ·rw[if_neg AdE]
  ·split
   ·rw[if_neg AdE]
   ·rw[Kc r _ AdE hr,e]
theorem Qw{l:List UInt8}(h:l≠[])(hd:∀c∈l,A6 (c.toNat:Int)=true):Lib.atoiAll l=if Cq 0 l≤9223372036854775807 then .ok (Cq 0 l) else .range:=by
 have a0:∀c∈l,48≤c.toNat∧c.toNat≤57:=λc hc=>by
  have:=hd c hc;simp[A6] at this;omega
 have hp:=Kc l 0 AdE a0;have hm:=KM l 0 AdE (λc hc=>(a0 c hc).1)
 cases l with
 | nil=>exact absurd rfl h
 | cons c r=>
  have hc:=a0 c AdM;rw[Lib.atoiAll_plain c r AdE AdE];have e:Lib.parseMag (c::r)=Lib.parseUint10 0 (c::r):=by simp[Lib.parseMag]
  rw[e,hp];simp only[Int.natCast_zero] at *;by_cases h1:Cq 0 (c::r)<18446744073709551616
  ·rw[if_pos h1];simp only[Lib.signless];by_cases h2:Cq 0 (c::r)≤9223372036854775807
   ·rw[if_pos h2,if_neg AdE]
    congr 1
    omega
   ·rw[if_neg h2,if_pos AdE]
  ·rw[if_neg h1,if_neg AdE];rfl
theorem Ij(p:Int→Bool):∀(l:List UInt8),∀c∈As p l,p (c.toNat:Int)=true
 | [],c,hc=>by simp[As] at hc
 | d::r,c,hc=>by
  have ih:=Ij p r;simp only[As] at hc ih;cases hd:p (d.toNat:Int)
  ·simp[hd] at hc
  ·simp only[List.takeWhile_cons,hd,if_true,AaT] at hc;rcases hc with rfl | hc
   ·exact hd
   ·exact ih c hc
theorem P1{l:List UInt8}(h:As A6 l≠[]):P0 l=if Cq 0 (As A6 l)≤9223372036854775807∧(Aj (As A6 l) 0≠48∨(As A6 l).length=1) then some (⟨1,[],Cq 0 (As A6 l),Ba,0⟩,(As A6 l).length) else none:=by
 have ha:=Qw h (Ij A6 l);by_cases h1:Cq 0 (As A6 l)≤9223372036854775807
 ·rw[if_pos h1] at ha;rw[Uw ha];simp only[h1,true_and]
 ·rw[if_neg h1] at ha;rw[Rk (by intro z hz;rw[ha] at hz;cases hz),if_neg (by intro hh;exact h1 hh.1)]
theorem GS(c:Int)(w:World):AF prog 229 [.int .u8 c] w (λv w'=>v=.bool (A6 c)∧Ai w w'):=by
 refine Bj func229 ntmps229 ?_;refine Sa ?_;refine ES (λh1=>?_) λh1=>?_
 all_goals
  refine Sa ?_;refine QW.body1 rfl rfl ⟨?_,Chg.refl _ _⟩;simp[A6,h1]
theorem GR(c:Int)(w:World):AF prog 267 [.int .u8 c] w (λv w'=>v=.bool (Cm c)∧Ai w w'):=by
 refine Bj func267 ntmps267 ?_;refine Sa ?_;refine ES (λh1=>?_) λh1=>?_
 all_goals
  refine Sa ?_;refine QW.body1 rfl rfl ⟨?_,Chg.refl _ _⟩;simp[Cm,h1]
theorem Wq(c:Int)(w:World):AF prog 194 [.int .u8 c] w (λv w'=>v=.bool (JA c)∧Ai w w'):=by
 refine Bj func194 ntmps194 ?_;refine Sa ?_;refine QW.body1 rfl rfl ⟨rfl,Chg.refl _ _⟩
theorem Ms(c:Int)(w:World):AF prog 232 [.int .u8 c] w (λv w'=>v=.bool (Gq c)∧Ai w w'):=by
 refine Bj func232 ntmps232 ?_;refine Sa ?_;refine Ay rfl rfl (GR _ _) ?_;rintro v w' ⟨rfl,hx⟩;refine Sa ?_;refine ES (λh1=>?_) λh1=>?_
 ·refine Sa ?_;refine QW.body1 rfl rfl ⟨?_,hx⟩;simp[Gq,h1]
 ·refine Sa ?_;refine ES (λh2=>?_) λh2=>?_
  ·refine Sa ?_;refine ES (λh3=>?_) λh3=>?_
   all_goals
    refine Sa ?_;refine QW.body1 rfl rfl ⟨?_,hx⟩;simp[Gq,h1,h2,h3]
  ·refine Sa ?_;refine QW.body1 rfl rfl ⟨?_,hx⟩;simp[Gq,h1,h2]
theorem TQ(c:Int)(w:World):AF prog 268 [.int .u8 c] w (λv w'=>v=.bool (Kx c)∧Ai w w'):=by
 refine Bj func268 ntmps268 ?_;refine Sa ?_;refine Ay rfl rfl (Ms _ _) ?_;rintro v w1 ⟨rfl,hx⟩;refine Sa ?_;refine ES (λh1=>?_) λh1=>?_
 ·refine Sa ?_;refine QW.body1 rfl rfl ⟨?_,hx⟩;simp[Kx,h1]
 ·refine Sa ?_;refine Ay rfl rfl (GS _ _) ?_;rintro v w2 ⟨rfl,a0⟩;replace hx:=hx.trans a0;refine Sa ?_;refine ES (λh2=>?_) λh2=>?_
  all_goals
   refine Sa ?_;refine QW.body1 rfl rfl ⟨?_,hx⟩;simp[Kx,h1,h2]
theorem Jt(p:Int→Bool)(f:Nat)(hp:∀(c:Int) (w:World),AF prog f [.int .u8 c] w (λv w'=>v=.bool (p c)∧Ai w w'))(s:List UInt8)(hs:s.length≤1000000)(a:Nat)(ha:a≤s.length)(b:Nat)(w:World)(hB:Blk w b [Ao s,.int .i64 a] 255) :
  AF prog 193 [.pointer (some ⟨b,0,none⟩),.func (.func f) #[] #[]] w
  (λv w'=>v=Ao (As p (s.drop a))∧Chg [b] w w'∧Blk w' b [Ao s,.int .i64 ((a+(As p (s.drop a)).length:Nat):Int)] 255):=by
 refine Bj func193 ntmps193 ?_;refine Sa ?_;refine CW.loop (ι:=Nat) (λk w'=>a≤k∧k≤s.length∧Ai w w'∧∀j,a≤j→j<k→p (Aj s j)=true) (λk=>[(0,.pointer (some ⟨b,0,none⟩)),(1,.func (.func f) #[] #[]),(5,.int .i64 k)]) (λk=>s.length - k) a ⟨by omega,ha,Chg.refl _ _,by omega⟩ CF ?_;rintro k w1 ⟨a2,hk,hx,a0⟩;replace hB:=hB.ext hx;refine Sa ?_;refine ES (λh1=>?_) λh1=>?_
 ·have h1:k<s.length:=by simpa using h1
  refine Sa ?_;refine LW.call (fs:=[]) (cs:=[]) rfl rfl rfl (hp _ _) ?_;rintro v w2 ⟨rfl,a4⟩;replace hB:=hB.ext a4;replace hx:=hx.trans a4;refine Sa ?_;refine A8 (λh2=>?_) λh2=>?_
  ·have h2:p (Aj s k)=true:=h2;refine Sa ?_;refine QW.again (k+1) ⟨by omega,by omega,hx,?_⟩ CF AdE;intro j a5 hj;by_cases a6:j=k
   ·subst a6;exact h2
   ·exact a0 j a5 AdE
  ·have h2:p (Aj s k)=false:=h2;obtain⟨e1,e2⟩:=OP p s a k a2 hk a0 (Or.inr h2);refine Sa ?_;refine LU ?_;refine Sq ?_;refine QL.slice_str (i:=a) (j:=k) rfl rfl rfl ⟨_,_,rfl,rfl⟩ ⟨_,_,rfl,rfl⟩ a2 hk rfl ?_;refine Sq ?_;refine QL.nil λw4 a1=>?_;replace hB:=hB.ext a1;replace hx:=hx.trans a1;refine Sa ?_;refine CR λw3 hc a3=>?_;refine Sa ?_;refine QW.body1 rfl rfl ⟨?_,hx.chg.same hc,?_⟩
   ·rw[←e1,Ui]
   ·rw[←e2];exact a3
 ·have h1:k=s.length:=by simp at h1;omega
  obtain⟨e1,e2⟩:=OP p s a k a2 hk a0 (Or.inl h1);refine Sa ?_;refine LU ?_;refine Sq ?_;refine QL.slice_str (i:=a) (j:=k) rfl rfl rfl ⟨_,_,rfl,rfl⟩ ⟨_,_,rfl,rfl⟩ a2 hk rfl ?_;refine Sq ?_;refine QL.nil λw4 a1=>?_;replace hB:=hB.ext a1;replace hx:=hx.trans a1;refine Sa ?_;refine CR λw3 hc a3=>?_;refine Sa ?_;refine QW.body1 rfl rfl ⟨?_,hx.chg.same hc,?_⟩
  ·rw[←e1,Ui]
  ·rw[←e2];exact a3
def WD(s:List UInt8)(a b:Nat)(w:World)(o:Option (Ap×Nat))(v:Value)(w':World):Prop:=
 ∃t ok a',v=.tuple #[.agg ⟨DA t⟩,.bool ok]∧Chg [b] w w'∧Blk w' b [Ao s,.int .i64 ((a':Nat):Int)] 255∧a'≤s.length∧a≤a'∧o=if ok then some (t,a' - a) else none
theorem _root_.Go.E.Chg.fresh{S S':List Nat}{a b c:World}(h:Chg S a b)(k:Chg S' b c)(hs:∀j,j∈S'→a.heap.size≤j):Chg S a c:=
 (Chg.trans h k).mono λj hj hl=>by
  rcases Abf.1 hj with hj | hj
  ·exact hj
  ·have:=hs j hj;omega
theorem O1(s:List UInt8)(w:World)(hs:s.length≤1000000):AF prog 270 [Ao s] w (λv w'=>v=.bool (NH s)∧Ai w w'):=by
 refine Bj func270 ntmps270 ?_;refine Sa ?_;refine ES (λh0=>?_) λh0=>?_
 ·have h0:s=[]:=by simpa using h0
  subst h0;refine Sa ?_;refine QW.body1 rfl rfl ⟨rfl,Chg.refl _ _⟩
 have h0:s≠[]:=by simpa using h0
 have hp:0<s.length:=Ab8.2 h0;refine Sa ?_;refine ES (λh1=>?_) λh1=>?_
 ·have h1:12<s.length:=by simp at h1;omega
  refine Sa ?_;refine QW.body1 rfl rfl ⟨by rw[Xf h1],Chg.refl _ _⟩
 have h1:s.length≤12:=by simp at h1;omega
 refine Sa ?_;refine Ay rfl rfl (GR _ _) ?_;rintro v w1 ⟨rfl,hx⟩;refine Sa ?_;refine A8 (λh2=>?_) λh2=>?_
 ·refine Sa ?_;refine QW.body1 rfl rfl ⟨?_,hx⟩;rw[Vq]
  simpa using h2
 have h2:Cm (Aj s 0)=true:=by simpa using h2
 refine Sa ?_;refine CW.loop (ι:=Nat) (λk w'=>k≤s.length∧Ai w w'∧∀j,j<k→Z7 (Aj s j)=true) (λk=>[(0,Ao s),(18,.int .i64 s.length),(19,.int .i64 k)]) (λk=>s.length - k) 0 ⟨by omega,hx,by omega⟩ CF ?_;rintro k w2 ⟨hk,a1,a0⟩;refine Sa ?_;refine A8 (λh3=>?_) λh3=>?_
 ·have h3:k<s.length:=by simpa using h3
  refine Sa ?_;refine Ay rfl rfl (GR _ _) ?_;rintro v w3 ⟨rfl,a2⟩;refine Sa ?_;refine ES (λh4=>?_) λh4=>?_
  ·refine Sa ?_;refine Ay rfl rfl (GS _ _) ?_;rintro v w4 ⟨rfl,a4⟩;refine Sa ?_;refine A8 (λh5=>?_) λh5=>?_
   ·refine Sa ?_;refine QW.body1 rfl rfl ⟨?_,(a1.trans a2).trans a4⟩;rw[ZT h3];simp at h4 h5;simp[Z7,h4,h5]
   ·refine Sa ?_;refine QW.again (k+1) ⟨by omega,(a1.trans a2).trans a4,?_⟩ CF AdE;intro j hj;by_cases a3:j=k
    ·subst a3;simp at h5;simp[Z7,h5]
    ·exact a0 j AdE
  ·refine Sa ?_;refine QW.again (k+1) ⟨by omega,a1.trans a2,?_⟩ CF AdE;intro j hj;by_cases a3:j=k
   ·subst a3;simp at h4;simp[Z7,h4]
   ·exact a0 j AdE
 ·have h3:k=s.length:=by simp at h3;omega
  subst h3;refine Sa ?_;refine QW.body1 rfl rfl ⟨?_,a1⟩;rw[Xg h0 h1 h2 a0]
theorem Tu(s:List UInt8)(hs:s.length≤1000)(a:Nat)(ha:a<s.length)(hd:A6 (Aj s a)=true)(b:Nat)(w0 w:World)(g:CQ w0)(h0:Ai w0 w)(hb0:w0.heap.size≤b)(hB:Blk w b [Ao s,.int .i64 a] 255) :
  AF prog 230 [.pointer (some ⟨b,0,none⟩)] w (WD s a b w (P0 (s.drop a))):=by
 have a8:=IP A6 (s.drop a);have a5:(s.drop a).length=s.length - a:=AdM
 obtain⟨aa,ab⟩:=Kq (p:=A6) (l:=s.drop a) AdE (by rw[GL];exact hd);have ac:=hB.lt;refine Bj func230 ntmps230 ?_;refine Sa ?_;refine Bo λC w1 ad hx hC=>?_;have ae:b<C:=AdE
 replace hB:=hB.ext hx;refine Sa ?_;refine LW.call (fs:=[]) (cs:=[]) rfl rfl rfl (Jt A6 _ GS s AdE a AdE b w1 hB) ?_;rintro v w2 ⟨rfl,a3,hB⟩;replace hC:=hC.chg a3 AdG;have a0:Chg [b] w w2:=(Chg.trans hx a3).mono AdM;have a9:Ai w0 w2:=(h0.trans hx).step a3 (by simpa using hb0);refine Sa ?_;refine Ay rfl rfl (HF _ AdE w2 (g.ext a9)) ?_;rintro v w3 ⟨hv,a4⟩;replace hC:=hC.ext a4;replace hB:=hB.ext a4;replace a0:=a0.ext a4;unfold IW at hv;by_cases a6:∃z,Lib.atoiAll (As A6 (s.drop a))=.ok z
 ·obtain⟨z,a7⟩:=a6;rw[a7] at hv;rw[Uw a7];simp only at hv;subst hv;refine Sa ?_
  (first | (apply LW.eql_nil;exact rfl;exact rfl;exact rfl;exact rfl) | (apply LW.eql_nil_nil;exact rfl;exact rfl;exact rfl;exact rfl))
  refine Sa ?_;refine ES (λh3=>?_) λh3=>?_
  ·refine Sa ?_;refine AD λw4 a1 hC=>?_;replace hC:Blk w4 C (DA ⟨1,[],z,Ba,0⟩) 203:=hC;replace hB:=hB.chg a1 AdG;replace a0:=a0.fresh a1 AdG;refine Sa ?_;refine QW.body_ct rfl rfl hC rfl rfl rfl rfl ⟨_,_,_,rfl,a0,hB,by omega,by omega,?_⟩;have h3:Aj (As A6 (s.drop a)) 0≠48:=by simpa using h3
   simp only[h3,ne_eq,not_false_eq_true,true_or,if_true,AcX]
  ·refine Sa ?_;refine AD λw4 a1 hC=>?_;replace hC:Blk w4 C (DA ⟨1,[],z,Ba,0⟩) 203:=hC;replace hB:=hB.chg a1 AdG;replace a0:=a0.fresh a1 AdG;refine Sa ?_;refine QW.body_ct rfl rfl hC rfl rfl rfl rfl ⟨_,_,_,rfl,a0,hB,by omega,by omega,?_⟩;have h3:Aj (As A6 (s.drop a)) 0=48:=by simpa using h3
   simp only[h3,ne_eq,not_true_eq_false,false_or,AcX,decide_eq_true_eq];by_cases h4:(As A6 (s.drop a)).length=1
   ·simp[h4]
   ·have h5:¬((As A6 (s.drop a)).length:Int)=1:=AdE
    simp[h4,h5]
 ·have a2:∀z,Lib.atoiAll (As A6 (s.drop a))≠.ok z:=λz hz=>a6 ⟨z,hz⟩;rw[Rk a2];obtain⟨z,t,x,rfl⟩:∃z t x,v=.tuple #[.int .i64 z,.iface t x]:=by
   split at hv
   ·rename_i z hz;exact absurd hz (a2 z)
   ·exact hv
  refine Sa ?_
  (first | (apply LW.eql_nil;exact rfl;exact rfl;exact rfl;exact rfl) | (apply LW.eql_nil_nil;exact rfl;exact rfl;exact rfl;exact rfl))
  refine Sa ?_;refine AD λw4 a1 hC=>?_;replace hC:Blk w4 C (DA ⟨1,[],z,Ba,0⟩) 203:=hC;replace hB:=hB.chg a1 AdG;replace a0:=a0.fresh a1 AdG;refine Sa ?_;refine QW.body_ct rfl rfl hC rfl rfl rfl rfl ⟨_,_,_,rfl,a0,hB,by omega,by omega,rfl⟩
theorem Y1(s:List UInt8)(hs:s.length≤1000)(a:Nat)(ha:a<s.length)(b:Nat)(w0 w:World)(g:CQ w0)(h0:Ai w0 w)(hb0:w0.heap.size≤b)(hB:Blk w b [Ao s,.int .i64 a] 255) :
  AF prog 233 [.pointer (some ⟨b,0,none⟩)] w (WD s a b w (Ip (s.drop a))):=by
 have a8:=IP Kx (s.drop a);have a7:(s.drop a).length=s.length - a:=AdM
 have ac:=hB.lt;refine Bj func233 ntmps233 ?_;refine Sa ?_;refine Bo λC w1 ad hx hC=>?_;have ae:b<C:=AdE
 replace hB:=hB.ext hx;refine Sa ?_;refine LW.call (fs:=[]) (cs:=[]) rfl rfl rfl (Jt Kx _ TQ s AdE a AdE b w1 hB) ?_;rintro v w2 ⟨rfl,a4,hB⟩;replace hC:=hC.chg a4 AdG;have a0:Chg [b] w w2:=(Chg.trans hx a4).mono AdM;have a9:Ai w0 w2:=(h0.trans hx).step a4 (by simpa using hb0);refine Sa ?_;refine Ay rfl rfl (Ql _ AdE w2 (g.ext a9)) ?_;rintro v w3 ⟨rfl,a5⟩;replace hC:=hC.ext a5;replace hB:=hB.ext a5;replace a0:=a0.ext a5;have af:=a0.size
 cases hr:Br (As Kx (s.drop a)) with
 | true=>
  rw[H6,if_pos hr];refine Sa ?_;refine Bo λF w4 aa a1 hF=>?_;have ab:C<F:=by have:=hC.lt;omega
  replace hC:=hC.ext a1;replace hB:=hB.ext a1;replace a0:=a0.ext a1;refine Sa ?_;refine AD λw5 a2 hF=>?_;replace hF:Blk w5 F (Dc (DX (As Kx (s.drop a)))) 187:=hF;replace hC:=hC.chg a2 AdG;replace hB:=hB.chg a2 AdG;replace a0:=a0.fresh a2 AdG;refine Sa ?_;refine AD λw6 a3 hC=>?_;replace hC:Blk w6 C (DA ⟨4,[],0,DX (As Kx (s.drop a)),0⟩) 203:=hC;replace hB:=hB.chg a3 AdG;replace a0:=a0.fresh a3 AdG;refine Sa ?_;refine QW.body_ct rfl rfl hC rfl rfl rfl rfl ⟨_,_,_,rfl,a0,hB,by omega,by omega,?_⟩
  simp[Ip,hr]
 | false=>
  rw[Aa8 hr];refine Sa ?_;refine Bo λF w4 aa a1 hF=>?_;have ab:C<F:=by have:=hC.lt;omega
  replace hC:=hC.ext a1;replace hB:=hB.ext a1;replace a0:=a0.ext a1;refine Sa ?_;refine AD λw5 a2 hF=>?_;replace hC:=hC.chg a2 AdG;replace hB:=hB.chg a2 AdG;replace a0:=a0.fresh a2 AdG;refine Sa ?_;refine Ay rfl rfl (O1 _ w5 AdE) ?_;rintro v w7 ⟨rfl,a6⟩;replace hC:=hC.ext a6;replace hB:=hB.ext a6;replace a0:=a0.ext a6;refine Sa ?_;refine AD λw6 a3 hC=>?_;replace hC:Blk w6 C (DA ⟨3,As Kx (s.drop a),0,Ba,0⟩) 203:=hC;replace hB:=hB.chg a3 AdG;replace a0:=a0.fresh a3 AdG;refine Sa ?_;refine QW.body_ct rfl rfl hC rfl rfl rfl rfl ⟨_,_,_,rfl,a0,hB,by omega,by omega,?_⟩;simp[Ip,hr]
theorem Yr(k:Nat)(hk:k<15):(Bk.map Ao)[k]?=some (Ao (Bk.getD k [])):=by
 have:Bk.length=15:=rfl;simp[Aap (show k<Bk.length by omega)]
theorem Wl(s:List UInt8)(hs:s.length≤1000)(a:Nat)(ha:a<s.length)(b:Nat)(w:World)(hB:Blk w b [Ao s,.int .i64 a] 255) :
  AF prog 234 [.pointer (some ⟨b,0,none⟩)] w (WD s a b w (H9 (s.drop a))):=by
 have a7:(s.drop a).length=s.length - a:=AdM
 have ad:=hB.lt;refine Bj func234 ntmps234 ?_;refine Sa ?_;refine Bo λC w1 ae hx hC=>?_;have af:b<C:=AdE
 replace hB:=hB.ext hx;refine Sa ?_;refine LU ?_;refine Sq ?_;refine QL.slice_str (i:=a) (j:=s.length) rfl rfl rfl ⟨_,_,rfl,rfl⟩ rfl AdE AdE rfl ?_;refine Sq ?_;refine QL.call0 rfl rfl (λw' _=>IZ _ _ w') ?_;refine Sq ?_;refine QL.nil λw2 a5=>?_;rw[Gv];replace hC:=hC.ext a5;replace hB:=hB.ext a5;replace hx:=hx.trans a5;refine Sa ?_;refine A8 (λhd=>?_) λhd=>?_
 ·have ab:=Nl hd;simp only[AaL,Abl] at ab;refine Sa ?_;refine CR λw3 a8 hB=>?_;replace hC:=hC.chg a8 AdG;have a0:Chg [b] w w3:=(Chg.trans hx a8).mono AdM;refine Sa ?_;refine AD λw4 a9 hC=>?_;replace hC:Blk w4 C (DA ⟨6,[],0,Ba,0⟩) 203:=hC;replace hB:Blk w4 b [Ao s,.int .i64 ((a+5:Nat):Int)] 255:=hB.chg a9 AdG;replace a0:=a0.fresh a9 AdG;refine Sa ?_;refine QW.body_ct rfl rfl hC rfl rfl rfl rfl ⟨_,_,_,rfl,a0,hB,by omega,by omega,?_⟩;have hd:Lib.hasPrefix (s.drop a) Jc=true:=hd;simp[H9,hd]
 have hd:Lib.hasPrefix (s.drop a) Jc=false:=hd;refine Sa ?_;refine Dt λA w3 ag a6 hA=>?_;replace hA:Blk w3 A (Bk.map Ao) 9:=hA;have ah:C<A:=by have:=hC.lt;omega
 replace hC:=hC.ext a6;replace hB:=hB.ext a6;replace hx:=hx.trans a6;have ai:=hx.size;refine Sa ?_;refine CW.loop (ι:=Nat) (λk w'=>k≤15∧Ai w3 w'∧∀j,j<k→Lib.hasPrefix (s.drop a) (Bk.getD j [])=false) (λk=>[(0,.pointer (some ⟨b,0,none⟩)),(2,.pointer (some ⟨C,0,none⟩)),(24,.slice (some ⟨A,0,none⟩) 15 15),(25,.int .i64 15),(26,.int .i64 k)]) (λk=>15 - k) 0 ⟨by omega,Chg.refl _ _,by omega⟩ Et ?_;rintro k w5 ⟨hk,a1,a2⟩;replace hA:=hA.ext a1;replace hC:=hC.ext a1;replace hB:=hB.ext a1;replace hx:=hx.trans a1;refine Sa ?_;refine A8 (λh1=>?_) λh1=>?_
 ·have h1:k<15:=by simp at h1;omega
  refine Sa ?_;refine LW.idx_slice (j:=k) rfl rfl rfl rfl rfl AdE AdG (by show 0+_*1=_;omega) rfl ?_;refine Sa ?_;refine LW.load rfl hA (Yr k h1) rfl rfl rfl ?_;refine Sa ?_;refine LU ?_;refine Sq ?_;refine QL.slice_str (i:=a) (j:=s.length) rfl rfl rfl ⟨_,_,rfl,rfl⟩ rfl AdE AdE rfl ?_;refine Sq ?_;refine QL.call0 rfl rfl (λw' _=>IZ _ _ w') ?_;refine Sq ?_;refine QL.nil λw6 a4=>?_;rw[Gv];replace hC:=hC.ext a4;replace hB:=hB.ext a4;replace hx:=hx.trans a4;replace a1:=a1.trans a4;refine Sa ?_;refine A8 (λh2=>?_) λh2=>?_
  ·have h2:Lib.hasPrefix (s.drop a) (Bk.getD k [])=true:=h2;have hp:=Nl h2;refine Sa ?_;refine CR λw7 aa hB=>?_;replace hC:=hC.chg aa AdG;have a0:Chg [b] w w7:=(Chg.trans hx aa).mono AdM;refine Sa ?_;refine AD λw8 a3 hC=>?_;replace hC:Blk w8 C (DA ⟨5,Bk.getD k [],0,Ba,0⟩) 203:=hC;replace hB:Blk w8 b [Ao s,.int .i64 ((a+(Bk.getD k []).length:Nat):Int)] 255:=hB.chg a3 AdG;replace a0:=a0.fresh a3 AdG;refine Sa ?_;refine QW.body_ct rfl rfl hC rfl rfl rfl rfl ⟨_,_,_,rfl,a0,hB,by omega,by omega,?_⟩;simp only[H9,hd,M3 (λx=>Lib.hasPrefix (s.drop a) x) [] Bk k h1 a2 h2];simp
  ·have h2:Lib.hasPrefix (s.drop a) (Bk.getD k [])=false:=h2;refine Sa ?_;refine QW.again (k+1) ⟨by omega,a1,?_⟩ Et AdE;intro j hj;by_cases ac:j=k
   ·subst ac;exact h2
   ·exact a2 j AdE
 ·have h1:k=15:=by simp at h1;omega
  subst h1;refine Sa ?_;refine AD λw8 a3 hC=>?_;replace hC:Blk w8 C (DA ⟨0,[],0,Ba,0⟩) 203:=hC;replace hB:=hB.chg a3 AdG;have a0:Chg [b] w w8:=(hx.mono (S':=[b]) AdM).fresh a3 AdG;refine Sa ?_;refine QW.body_ct rfl rfl hC rfl rfl rfl rfl ⟨_,_,a,rfl,a0,hB,by omega,by omega,?_⟩;simp only[H9,hd,Ol (λx=>Lib.hasPrefix (s.drop a) x) [] Bk a2];simp
theorem Rq{w:World}{lo:Nat}{e:TypeId}{v:Value}{out:List UInt8}{z:Int}(h0:0≤z)(h1:z≤255)(h:E.Own w lo e 1 v (out.length+1) (AK out++[.int .u8 z])):E.Own w lo e 1 v (out++[ch z]).length (AK (out++[ch z])):=by
 have e1:AK (out++[ch z])=AK out++[.int .u8 z]:=by simp[AK,F4 h0 h1]
 rw[e1]
 simpa using h
theorem W0(s:List UInt8)(hs:s.length≤1000)(a:Nat)(ha:a<s.length)(b:Nat)(w:World)(hB:Blk w b [Ao s,.int .i64 a] 255) :
  AF prog 231 [.pointer (some ⟨b,0,none⟩)] w (WD s a b w (GF (s.drop a))):=by
 have af:=hB.lt;refine Bj func231 ntmps231 ?_;refine Sa ?_;refine Bo λC w1 ag hx hC=>?_;have ah:b<C:=AdE
 replace hB:=hB.ext hx;have ab:C<w1.heap.size:=hC.lt;have ai:=hx.size;refine Sa ?_;refine CW.loop (ι:=Nat×List UInt8×Value) (λk w'=>k.1≤s.length∧k.2.1.length≤k.1∧Ai w1 w'∧E.Own w' w1.heap.size 5 1 k.2.2 k.2.1.length (AK k.2.1)∧GK s (a+1) k.1 k.2.1) (λk=>[(0,.pointer (some ⟨b,0,none⟩)),(2,.pointer (some ⟨C,0,none⟩)),(4,k.2.2),(5,.int .i64 k.1)]) (λk=>s.length - k.1) (a+1,[],.slice none 0 0) ⟨by simp;omega,by simp,Chg.refl _ _,Own.nil _ _ _ _,GK.start _ _⟩ Bx ?_;rintro⟨i,out,v⟩ w2 ⟨hi,ho,a1,a0,a5⟩;simp only at hi ho a0 a5;show CW _ _ _ _ _ [(0,.pointer (some ⟨b,0,none⟩)),(2,.pointer (some ⟨C,0,none⟩)),(4,v),(5,.int .i64 i)] _;have aj:=a5.1;have ak:C∉Ac v:=a0.old ab;have a9:b∉Ac v:=a0.old AdE;replace hC:=hC.ext a1;replace hB:=hB.ext a1;have al:=a1.size;refine Sa ?_;refine A8 (λh1=>?_) λh1=>?_
 ·have h1:i<s.length:=by simp at h1;omega
  refine Sa ?_;have aa:=GM s i;refine ES (λh2=>?_) λh2=>?_
  ·have h2:Aj s i=34:=by simpa using h2
   refine Sa ?_;refine ES (λh3=>?_) λh3=>?_
   ·have h3:i+1<s.length:=by simp at h3;omega
    refine Sa ?_;refine A8 (λh4=>?_) λh4=>?_
    ·have h4:Aj s (i+1)=34:=by simpa using h4
     refine Sa ?_;refine Sa ?_;refine Dt λA w3 ac a7 hA=>?_;replace a0:=a0.ext a7;replace a1:=a1.trans a7;have ad:=a1.size;refine Sa ?_;refine LW.append rfl rfl rfl rfl rfl rfl a0 AdE hA rfl rfl rfl (by show(out.length+1)*2≤140737488355328;omega) rfl ?_;intro v' w4 a8 a2 ae;replace a1:=a1.step a8 (λk hk=>(a0.lt hk).1);refine Sa ?_;refine QW.again (i+2,out++[ch (Aj s i)],v') ⟨by show i+2≤_;omega,by show(out++_).length≤i+2;simp;omega,a1,Rq aa.1 AdE a2,GK.go a5 AdE ?_⟩ Bx (by show s.length - (i+2)<s.length - i;omega);rw[Ym h3 h2 h4,show i+2 - i=2 by omega,h2];rfl
    ·have h4:i+1<s.length→Aj s (i+1)≠34:=λ_=>by simpa using h4
     refine Sa ?_;refine CW.yes rfl Aeh ?_;refine Sa ?_;refine CR λw5 a6 hB=>?_;replace hB:Blk w5 b [Ao s,.int .i64 ((i+1:Nat):Int)] 255:=hB;replace hC:=hC.chg a6 AdG;have a3:Chg [b] w w5:=(Chg.trans (hx.trans a1) a6).mono AdM;replace a0:=a0.chg a6 (λj hj hb=>a9 Aev);refine Sa ?_;refine LW.string_own rfl a0 rfl rfl rfl rfl rfl rfl rfl ?_;refine Sa ?_;refine AD λw8 a4 hC=>?_;replace hC:Blk w8 C (DA ⟨2,out,0,Ba,0⟩) 203:=hC;replace hB:=hB.chg a4 AdG;replace a3:=a3.fresh a4 AdG;refine Sa ?_;refine QW.body_ct rfl rfl hC rfl rfl rfl rfl ⟨_,_,_,rfl,a3,hB,by omega,by omega,?_⟩;have e:=a5.2;rw[N4 h1 h2 h4] at e;simp only[GF,Aci];rw[e];simp;omega
   ·have h3:¬i+1<s.length:=by simp at h3;omega
    have h4:i+1<s.length→Aj s (i+1)≠34:=λh=>absurd h h3;refine Sa ?_;refine CW.yes rfl Aeh ?_;refine Sa ?_;refine CR λw5 a6 hB=>?_;replace hB:Blk w5 b [Ao s,.int .i64 ((i+1:Nat):Int)] 255:=hB;replace hC:=hC.chg a6 AdG;have a3:Chg [b] w w5:=(Chg.trans (hx.trans a1) a6).mono AdM;replace a0:=a0.chg a6 (λj hj hb=>a9 Aev);refine Sa ?_;refine LW.string_own rfl a0 rfl rfl rfl rfl rfl rfl rfl ?_;refine Sa ?_;refine AD λw8 a4 hC=>?_;replace hC:Blk w8 C (DA ⟨2,out,0,Ba,0⟩) 203:=hC;replace hB:=hB.chg a4 AdG;replace a3:=a3.fresh a4 AdG;refine Sa ?_;refine QW.body_ct rfl rfl hC rfl rfl rfl rfl ⟨_,_,_,rfl,a3,hB,by omega,by omega,?_⟩;have e:=a5.2;rw[N4 h1 h2 h4] at e;simp only[GF,Aci];rw[e];simp;omega
  ·have h2:Aj s i≠34:=by simpa using h2
   refine Sa ?_;refine CW.no rfl Aeh ?_;refine Sa ?_;refine A8 (λh5=>?_) λh5=>?_
   ·have h5:Aj s i<32:=by simpa using h5
    refine Sa ?_;refine AD λw8 a4 hC=>?_;replace hC:Blk w8 C (DA ⟨0,[],0,Ba,0⟩) 203:=hC;replace hB:=hB.chg a4 AdG;have a3:Chg [b] w w8:=((hx.trans a1).mono (S':=[b]) AdM).fresh a4 AdG;refine Sa ?_;refine QW.body_ct rfl rfl hC rfl rfl rfl rfl ⟨_,_,a,rfl,a3,hB,by omega,by omega,?_⟩;have e:=a5.2;rw[Yk (i:=i) AdE h5] at e;simp only[GF,Aci];rw[e];simp
   ·have h5:¬Aj s i<32:=by simpa using h5
    refine Sa ?_;refine Sa ?_;refine Dt λA w3 ac a7 hA=>?_;replace a0:=a0.ext a7;replace a1:=a1.trans a7;have ad:=a1.size;refine Sa ?_;refine LW.append rfl rfl rfl rfl rfl rfl a0 AdE hA rfl rfl rfl (by show(out.length+1)*2≤140737488355328;omega) rfl ?_;intro v' w4 a8 a2 ae;replace a1:=a1.step a8 (λk hk=>(a0.lt hk).1);refine Sa ?_;refine QW.again (i+1,out++[ch (Aj s i)],v') ⟨by show i+1≤_;omega,by show(out++_).length≤i+1;simp;omega,a1,Rq aa.1 AdE a2,GK.go a5 AdE ?_⟩ Bx (by show s.length - (i+1)<s.length - i;omega);rw[Zo h1 h2 h5,show i+1 - i=1 by omega]
 ·have h1:i=s.length:=by simp at h1;omega
  refine Sa ?_;refine AD λw8 a4 hC=>?_;replace hC:Blk w8 C (DA ⟨0,[],0,Ba,0⟩) 203:=hC;replace hB:=hB.chg a4 AdG;have a3:Chg [b] w w8:=((hx.trans a1).mono (S':=[b]) AdM).fresh a4 AdG;refine Sa ?_;refine QW.body_ct rfl rfl hC rfl rfl rfl rfl ⟨_,_,a,rfl,a3,hB,by omega,by omega,?_⟩;have e:=a5.2;rw[Yj (i:=i) AdE] at e;simp only[GF,Aci];rw[e];simp
def byF(c:Int):Nat:=if A6 c then 230 else if c=34 then 231 else if Gq c then 233 else 234
theorem ZQ(c:Int)(w:World):AF prog 195 [.int .u8 c] w (λv w'=>v=.func (.func (byF c)) #[] #[]∧Ai w w'):=by
 refine Bj func195 ntmps195 ?_;refine Sa ?_;refine Ay rfl rfl (GS _ _) ?_;rintro v w1 ⟨rfl,hx⟩;refine Sa ?_;refine A8 (λh1=>?_) λh1=>?_
 ·refine Sa ?_;refine QW.body1 rfl rfl ⟨?_,hx⟩;simp[byF,h1]
 ·refine Sa ?_;refine A8 (λh2=>?_) λh2=>?_
  ·have h2:c=34:=by simpa using h2
   refine Sa ?_;refine QW.body1 rfl rfl ⟨?_,hx⟩;rw[byF,h1,if_neg AdM,if_pos h2]
  ·have h2:c≠34:=by simpa using h2
   refine Sa ?_;refine Ay rfl rfl (Ms _ _) ?_;rintro v w2 ⟨rfl,a0⟩;replace hx:=hx.trans a0;refine Sa ?_;refine A8 (λh3=>?_) λh3=>?_
   all_goals
    refine Sa ?_;refine QW.body1 rfl rfl ⟨?_,hx⟩;simp[byF,h1,h2,h3]
theorem Za(s:List UInt8)(hs:s.length≤1000)(a:Nat)(ha:a<s.length)(b:Nat)(w0 w:World)(g:CQ w0)(h0:Ai w0 w)(hb0:w0.heap.size≤b)(hB:Blk w b [Ao s,.int .i64 a] 255) :
  AF prog (byF (Aj s a)) [.pointer (some ⟨b,0,none⟩)] w (WD s a b w (Dp (s.drop a))):=by
 have e:Aj (s.drop a) 0=Aj s a:=by rw[GL];rfl
 unfold byF Dp;rw[e];cases h1:A6 (Aj s a)
 ·by_cases h2:Aj s a=34
  ·simp only[Ab9,if_false,h2,if_true];exact W0 s hs a ha b w hB
  ·cases h3:Gq (Aj s a)
   ·simp only[Ab9,if_false,h2];exact Wl s hs a ha b w hB
   ·simp only[Ab9,if_false,h2,if_true];exact Y1 s hs a ha b w0 w g h0 hb0 hB
 ·simp only[if_true];exact Tu s hs a ha h1 b w0 w g h0 hb0 hB
def St(s:List UInt8)(v:Value)(w:World)(lo:Nat):Prop:=
 if 300<s.length then v=.tuple #[.slice none 0 0,.int .i64 4]
 else match Jq s with
  | none=>v=.tuple #[.slice none 0 0,.int .i64 5]
  | some l=>∃sv,v=.tuple #[sv,.int .i64 0]∧E.Own w lo 203 9 sv l.length (l.flatMap DA)
theorem U5{w:World}{lo:Nat}{e:TypeId}{v:Value}{out:List Ap}{t:Ap}(h:E.Own w lo e 9 v (out.length+1) (out.flatMap DA++DA t)):E.Own w lo e 9 v (out++[t]).length ((out++[t]).flatMap DA):=by
 simpa using h
theorem Y9(s:List UInt8)(hs:s.length≤9223372036854775807)(w:World)(g:CQ w):AF prog 150 [Ao s] w (λv w'=>St s v w' w.heap.size∧Ai w w'):=by
 refine Bj func150 ntmps150 ?_;refine Sa ?_;refine A8 (λh1=>?_) λh1=>?_
 ·have h1:300<s.length:=by simp at h1;omega
  refine Sa ?_;refine QW.body2 rfl rfl rfl ⟨?_,Chg.refl _ _⟩;rw[St,if_pos h1]
 have h1:¬300<s.length:=by simp at h1;omega
 refine Sa ?_;refine CM λb w1 az hx hB=>?_;replace hB:Blk w1 b [Ao s,.int .i64 ((0:Nat):Int)] 255:=hB;have al:b<w1.heap.size:=hB.lt;refine Sa ?_;refine CW.loop (ι:=Nat×List Ap×Value) (λk w'=>k.1≤s.length∧k.2.1.length≤k.1∧Ai w w'∧w1.heap.size≤w'.heap.size∧Blk w' b [Ao s,.int .i64 k.1] 255∧E.Own w' w1.heap.size 203 9 k.2.2 k.2.1.length (k.2.1.flatMap DA)∧Gm s k.1 k.2.1) (λk=>[(0,Ao s),(4,.pointer (some ⟨b,0,none⟩)),(5,k.2.2)]) (λk=>s.length - k.1) (0,[],.slice none 0 0) ⟨by simp,by simp,hx,Abi _,hB,Own.nil _ _ _ _,Gm.start _⟩ CF ?_;rintro⟨a,out,v⟩ w2 ⟨ha,ho,am,b0,ai,a1,aa⟩;clear hB;simp only at ha ho ai a1 aa;show CW _ _ _ _ _ [(0,Ao s),(4,.pointer (some ⟨b,0,none⟩)),(5,v)] _;have af:b∉Ac v:=a1.old al;refine Sa ?_;refine Ay rfl rfl (Jt JA _ Wq s AdE a AdE b w2 ai) ?_;rintro u w3 ⟨rfl,ag,aj⟩;have ah:=am.step ag AdG;have b1:=ag.size;have a3:=a1.chg ag (λj hj hb=>af Aev);generalize hc:a+(As JA (s.drop a)).length=c at aj;have b2:c≤s.length:=by
  have:=IP JA (s.drop a);simp at this;omega
 refine Sa ?_;refine A8 (λh2=>?_) λh2=>?_
 ·have h2:c=s.length:=by simp at h2;omega
  refine Sa ?_;refine Dt λA w4 an a2 hA=>?_;replace hA:Blk w4 A (DA ⟨0,[],0,Ba,(s.length:Int)⟩) 203:=by rw[←h2];exact hA
  have ao:=a2.size;refine Sa ?_;refine LW.append rfl rfl rfl rfl rfl rfl (a3.ext a2) AdE hA rfl rfl rfl (by show(out.length+1)*81≤140737488355328;omega) rfl ?_;intro v' w5 a6 a0 _;refine Sa ?_;refine QW.body2 rfl rfl rfl ⟨?_,(ah.trans a2).step a6 (λk hk=>?_)⟩
  ·rw[St,if_neg h1,aa.end AdE];refine⟨_,rfl,?_⟩;obtain⟨hl,hh⟩:=U5 a0;refine⟨hl,?_⟩;rcases hh with hh | ⟨gg,cap,sp,e1,e2,e3,e4,e5⟩
   ·exact .inl hh
   ·exact .inr ⟨gg,cap,sp,e1,e2,e3,e4,by have:=hx.size;omega⟩
  ·have:=(a1.lt hk).1;have:=hx.size;omega
 have h2:c<s.length:=by simp at h2;omega
 refine Sa ?_;refine Ay rfl rfl (ZQ _ _) ?_;rintro u w4 ⟨rfl,a2⟩;have ao:=a2.size;refine Sa ?_;refine LW.call (fs:=[]) (cs:=[]) rfl rfl rfl (Za s AdE c h2 b w w4 g (ah.trans a2) AdE (aj.ext a2)) ?_;rintro u w5 ⟨t,ok,a',rfl,a6,ap,aq,b3,a7⟩;have ar:=(ah.trans a2).step a6 AdG;have b4:=a6.size;have a0:=(a3.ext a2).chg a6 (λj hj hb=>af Aev);refine Sa ?_;refine Bo λC w6 b5 ab hC=>?_;have b6:=ab.size;refine Sa ?_;refine AD λw7 ac hC=>?_;replace hC:Blk w7 C (DA t) 203:=hC;have ak:=(ar.trans ab).step ac AdG;have b7:=ac.size;have au:=(ap.ext ab).chg ac AdG;have a8:=(a0.ext ab).chg ac (λj hj hb=>by
  simp at hb;have:=(a0.lt hj).2;omega)
 refine Sa ?_
 cases ok with
 | false=>
  refine Sa ?_;refine QW.body2 rfl rfl rfl ⟨?_,ak⟩
  rw[St,if_neg h1,aa.bad hc h2 Aek]
 | true=>
  have a7:Dp (s.drop c)=some (t,a' - c):=by simpa using a7
  have av:=G6 (by intro hn;have:=congrArg List.length hn;simp at this;omega) a7;refine Sa ?_;refine CR λw8 ad hC=>?_;replace hC:Blk w8 C (DA {t with at_:=(c:Int)}) 203:=hC;have aw:=ak.step ad AdG;have b8:=ad.size;have ax:=au.chg ad AdG;have a9:=a8.chg ad (λj hj hb=>by
   simp at hb;have:=(a0.lt hj).2;omega)
  refine Sa ?_;refine Dt λA w9 an ae hA=>?_;replace hA:Blk w9 A (DA {t with at_:=(c:Int)}) 203:=hA;have b9:=ae.size;refine Sa ?_;refine LW.append rfl rfl rfl rfl rfl rfl (a9.ext ae) AdE hA rfl rfl rfl (by show(out.length+1)*81≤140737488355328;omega) rfl ?_;intro v' ba a4 a5 _;have ay:=a4.size;refine Sa ?_;refine QW.again (a',out++[{t with at_:=(c:Int)}],v') ⟨aq,by simp;omega,?_,by omega,?_,U5 a5,?_⟩ CF (by show s.length - a'<s.length - a;omega)
  ·refine(aw.trans ae).step a4 (λk hk=>?_);have:=(a1.lt hk).1;omega
  ·exact(ax.ext ae).chg a4 af
  ·have:=aa.go hc h2 a7
   rwa [show c+(a' - c)=a' by omega] at this
end Go.Proofs.YtcjjcnecopnpcaaGreatDoor
