/-
  Joined by program out of the texts CU Addr Ref LexL.
-/
import Derived.Test.YtefaigjfkddelaaGreatDoorTab
import Derived.Test.YtefaigjfkddelaaGreatDoorRkE
import Derived.Test.YtefaigjfkddelaaGreatDoorShelf
import Derived.ChangeAgain
import Derived.Lib.ItoaNum
import Derived.Lib.Strings
import Derived.Lib.IndexMore
import Derived.Lib.AtoiAll
import Derived.Lib.ItoaLen
import Derived.Lib.AtoiAllCases
namespace Go.Proofs.YtefaigjfkddelaaGreatDoor
open Go Go.E Go.RowKit
structure CU (w:World):Prop where
 shaped:w.ShapedOpen Tryz.prog
 pow : Lib.TabIs Tryz.prog w "internal/strconv.uint64pow10" .u64 Lib.pow10Tab
 syn:∃t v,w.cell? ⟨0,0,none⟩=some (.iface t v)
 rng:∃t v,w.cell? ⟨1,0,none⟩=some (.iface t v)
theorem Aw {w w':World} (h:Ae w w') {a:Addr} {v:Value} (hc:w.cell? a=some v):w'.cell? a=some v:=by
 have a0:=World.block_lt_of_cell? w a hc;rw [(Ae.toBelow h).cell a0];exact hc
theorem Ww {w w':World} (h:Ae w w') {n:String} {cs:Array Value} (hv:w.var? Tryz.prog n=some cs):w'.var? Tryz.prog n=some cs:=by
 unfold World.var? at hv ⊢
 cases hg:Tryz.prog.globalNamed n with
 | none=>simp [hg] at hv
 | some g=>
  simp only [hg,Option.bind_some] at hv ⊢;have a0:g<w.heap.size:=by
   rcases Nat.lt_or_ge g w.heap.size with hl | hl
   ·exact hl
   ·rw [Array.getElem?_eq_none hl] at hv;cases hv
  rw [(Ae.toBelow h).block g a0];exact hv
theorem CU.ext {w w':World} (g:CU w) (h:Ae w w'):CU w':=
 ⟨World.ShapedOpen.keptBut g.shaped ((Ae.toBelow h).frame (λ_=>False)) (λ_ hf=>hf.elim),Ww h g.pow,
  g.syn.elim λt ht=>ht.elim λv hv=>⟨t,v,Aw h hv⟩,g.rng.elim λt ht=>ht.elim λv hv=>⟨t,v,Aw h hv⟩⟩
theorem Ae.drewN (w:World) (k:Nat):Ae w (w.drewN k):=⟨rfl,rfl,rfl,Nat.le_refl _,λ_ _ _=>rfl⟩
theorem Ae.grow (w:World) (os:Array Obj):Ae w (Go.Sort.grow w os):=
 ⟨rfl,rfl,rfl,by simp [Go.Sort.grow],λk hk _=>by simp [Go.Sort.grow,Array.getElem?_append_left hk]⟩
theorem Ae.bytesWorld (w:World) (e:TypeId) (s:ByteArray):Ae w (Lib.bytesWorld w e s):=by
 refine ⟨?_,?_,?_,?_,λk hk _=>?_⟩
 ·unfold Lib.bytesWorld World.freeze;split<;>rfl
 ·unfold Lib.bytesWorld World.freeze;split<;>rfl
 ·unfold Lib.bytesWorld World.freeze;split<;>rfl
 ·unfold Lib.bytesWorld World.freeze;simp
 ·unfold Lib.bytesWorld World.freeze;rw [if_neg (by omega)];show (Array.modify _ _ _)[k]?=_;rw [Array.getElem?_modify,if_neg (by simp;omega)];exact Below.heap_alloc _ _ _ hk
theorem FA {f:FuncId} {args:List Value} {w:World} {R:Ending→World→Prop} {Φ:Value→World→Prop} (hc:Cx Tryz.prog f=true) (h:Calls Tryz.prog f ⟨args⟩ w R) (hm:∀e w',R e w'→FY Φ e w'):AA Tryz.prog f args w Φ:=⟨hc,h.mono hm⟩
theorem L8 (n:Int) (h0:-9223372036854775808≤n) (h1:n≤9223372036854775807) (w:World) (g:CU w):AA Tryz.prog 88 [.int .i64 n] w (λv w'=>v=Aj (Lib.itoa n)∧Ae w w'):=
 FA (by kernel_rfl) (Tryz.strconv_Itoa n h0 h1 w g.pow) λe w' ⟨he,k,os,hw⟩=>⟨_,he,rfl,by subst hw;exact (Ae.drewN w k).trans (Ae.grow _ _)⟩
def Ix (l:List UInt8) (v:Value):Prop:=match Lib.atoiAll l with
 | .ok n=>v=.tuple #[.int .i64 n,.nilIface]
 | _=>∃z t x,v=.tuple #[.int .i64 z,.iface t x]
theorem Hm (l:List UInt8) (hl:l.length≤1000000) (w:World) (g:CU w):AA Tryz.prog 128 [Aj l] w (λv w'=>Ix l v∧Ae w w'):=by
 have hs:(⟨⟨l⟩⟩:ByteArray).size=l.length:=rfl
 cases h:Lib.atoiAll l with
 | ok n=>
  refine FA (by kernel_rfl) (Tryz.strconv_Atoi_ok ⟨⟨l⟩⟩ (by rw [hs];omega) n h w) λe w' ⟨he,hw⟩=>⟨_,he,by unfold Ix;rw [h],?_⟩;rcases hw with rfl | ⟨t,rfl⟩
  ·exact Chg.refl _ _
  ·exact Ae.bytesWorld ..
 | range=>
  obtain ⟨t,v,hv⟩:=g.rng
  exact FA (by kernel_rfl) (Tryz.strconv_Atoi_range ⟨⟨l⟩⟩ (by rw [hs];omega) h _ w hv (Or.inr ⟨t,v,rfl⟩)) λe w' ⟨N,he,_,_,hb⟩=>⟨_,he,by unfold Ix;rw [h];exact ⟨_,_,_,rfl⟩,Ae.of_below hb⟩
 | _=>
  obtain ⟨t,v,hv⟩:=g.syn;exact FA (by kernel_rfl) (Any.strconv_Atoi_syntax Tryz.laysAtoi ⟨⟨l⟩⟩ (by rw [hs];omega) h _ w hv (Or.inr ⟨t,v,rfl⟩)) λe w' ⟨N,he,_,_,hb⟩=>⟨_,he,by unfold Ix;rw [h];exact ⟨_,_,_,rfl⟩,Ae.of_below hb⟩
theorem Np (s p:List UInt8) (w:World):AA Tryz.prog 249 [Aj s,Aj p] w (λv w'=>v=.tuple #[Aj (Lib.trimPrefix s p),.bool (Lib.hasPrefix s p)]∧Ae w w'):=
 FA (by kernel_rfl) (Tryz.strings_CutPrefix ⟨⟨s⟩⟩ ⟨⟨p⟩⟩ w) λe w' ⟨he,hw⟩=>⟨_,he,rfl,by subst hw;exact Chg.refl _ _⟩
theorem Iy (s p:List UInt8) (w:World):AA Tryz.prog 222 [Aj s,Aj p] w (λv w'=>v=.bool (Lib.hasPrefix s p)∧Ae w w'):=
 FA (by kernel_rfl) (Tryz.strings_HasPrefix ⟨⟨s⟩⟩ ⟨⟨p⟩⟩ w) λe w' ⟨he,hw⟩=>⟨_,he,rfl,by subst hw;exact Chg.refl _ _⟩
theorem LC (s o n:List UInt8) (hs:s.length≤1000000) (ho:1≤o.length) (hn:n.length≤1000) (w:World) (g:CU w):AA Tryz.prog 184 [Aj s,Aj o,Aj n] w (λv w'=>v=Aj (Lib.replaceAll s o n)∧Ae w w'):=by
 obtain ⟨m,hm⟩:=(Tryz.laysM143).s1_3 w g.shaped;have hc:Lib.countB ⟨⟨s⟩⟩ ⟨⟨o⟩⟩≤s.length+1:=Lib.count_le s o;have hz:Lib.countB ⟨⟨s⟩⟩ ⟨⟨o⟩⟩*n.length≤1000001*1000:=Nat.mul_le_mul (by omega) hn;exact FA (by kernel_rfl) (Tryz.strings_ReplaceAll ⟨⟨s⟩⟩ ⟨⟨o⟩⟩ ⟨⟨n⟩⟩ m w (show s.length<_ by omega) hm ho (show s.length+_*n.length≤_ by omega)) λe w' ⟨he,hw⟩=>⟨_,he,rfl,Ae.of_below hw⟩
theorem VE (s p:List UInt8) (hs:s.length≤1000000) (w:World) (g:CU w):AA Tryz.prog 232 [Aj s,Aj p] w (λv w'=>v=.tuple #[Aj (Lib.cut s p).1,Aj (Lib.cut s p).2.1,.bool (Lib.cut s p).2.2]∧Ae w w'):=
 FA (by kernel_rfl) (Tryz.strings_Cut_shaped ⟨⟨s⟩⟩ ⟨⟨p⟩⟩ w g.shaped (show s.length<_ by omega)) λe w' ⟨he,k,hw⟩=>⟨_,he,rfl,by subst hw;exact Ae.drewN w k⟩
open Go Go.E
def AX (c:Int):Bool:=decide (65≤c)&&decide (c≤90)
def Al (c:Int):Bool:=decide (48≤c)&&decide (c≤57)
def ER (c:Int):Bool:=AX c||(decide (97≤c)&&decide (c≤122))
def QQ (c:Int):Bool:=ER c||Al c
def DJ (l:List UInt8):Bool:=decide (l≠[])&&decide (l.length≤12)&&ER (Ab l 0)&&decide (∀j,j<l.length→QQ (Ab l j)=true)
theorem M4 {l:List UInt8} (h:12<l.length):DJ l=false:=by simp [DJ];intros;omega
theorem KA {l:List UInt8} (h:ER (Ab l 0)=false):DJ l=false:=by simp [DJ,h]
theorem PU {l:List UInt8} {k:Nat} (hk:k<l.length) (h:QQ (Ab l k)=false):DJ l=false:=by
 simp only [DJ,Bool.and_eq_false_iff,decide_eq_false_iff_not];exact Or.inr λhh=>by rw [hh k hk] at h;cases h
theorem M5 {l:List UInt8} (h0:l≠[]) (h1:l.length≤12) (h2:ER (Ab l 0)=true) (h3:∀j,j<l.length→QQ (Ab l j)=true):DJ l=true:=by
 simp [DJ,h0,h1,h2];exact h3
def EP (n:Int):List UInt8:=
 if n<0∨701<n then [] else if n<26 then [ch (65+n)] else [ch (65+n / 26 - 1),ch (65+n % 26)]
def AO (l:List UInt8):Option Int:=
 match l with
 | [_]=>if AX (Ab l 0) then some (Ab l 0 - 65) else none
 | [_,_]=>if AX (Ab l 0)&&AX (Ab l 1) then some ((Ab l 0 - 65+1)*26+(Ab l 1 - 65)) else none
 | _=>none
def Cz (l:List UInt8):Value:=match AO l with
 | some n=>.tuple #[.int .i64 n,.bool true]
 | none=>.tuple #[.int .i64 0,.bool false]
structure Co where
 sheet:List UInt8
 col:Int
 row:Int
 ac:Bool
 ar:Bool
deriving DecidableEq
def AQ (x:Co):List Value:=[Aj x.sheet,.int .i64 x.col,.int .i64 x.row,.bool x.ac,.bool x.ar]
def IQ (x:Co):Value:=.agg ⟨[Aj x.sheet,.int .i64 x.col,.int .i64 x.row,.bool x.ac,.bool x.ar]⟩
def AP (x:Co):Bool:=(decide (x.sheet=[])||DJ x.sheet)&&decide (0≤x.col)&&decide (x.col≤701)&&decide (0≤x.row)&&decide (x.row≤998)
def Dj (b:Bool):List UInt8:=if b then [36] else []
def B9 (x:Co):List UInt8:=(if x.sheet=[] then [] else x.sheet++[33])++(Dj x.ac++EP x.col++Dj x.ar++Lib.itoa (x.row+1))
def Cd (x:Co):List UInt8:=if AP x then B9 x else []
def Ah (p:Int→Bool) (s:List UInt8):List UInt8:=s.takeWhile λc=>p c.toNat
def He (p:Int→Bool) (s:List UInt8):List UInt8:=s.dropWhile λc=>p c.toNat
theorem JJ (p:Int→Bool):∀(s:List UInt8) (k:Nat),k≤s.length→(∀j,j<k→p (Ab s j)=true)→(k=s.length∨p (Ab s k)=false)→s.take k=Ah p s∧s.drop k=He p s
 | [],k,hk,_,_=>by simp [Ah,He]
 | c::s,0,_,_,h=>by
  rcases h with h | h
  ·simp at h
  ·have hc:p (c.toNat:Int)=false:=h
   simp [Ah,He,hc]
 | c::s,k+1,hk,hall,h=>by
  have hc:p (c.toNat:Int)=true:=hall 0 (by omega);have ih:=JJ p s k (by simpa using hk) (λj hj=>hall (j+1) (by omega)) (by
   rcases h with h | h
   ·exact Or.inl (by simpa using h)
   ·exact Or.inr h)
  simp [Ah,He,hc] at ih ⊢;exact ih
theorem LX (s:List UInt8) (k:Nat):cut s 0 k=s.take k:=by simp [cut]
theorem DW (s:List UInt8) (k:Nat):cut s k s.length=s.drop k:=by
 unfold cut;exact List.take_of_length_le (by simp)
def CD (s:List UInt8):List UInt8:=if (Lib.cut s [33]).2.2 then (Lib.cut s [33]).1 else []
def Cy (s:List UInt8):List UInt8:=if (Lib.cut s [33]).2.2 then (Lib.cut s [33]).2.1 else s
def BU (s:List UInt8):List UInt8:=Lib.trimPrefix (Cy s) [36]
def Db (s:List UInt8):List UInt8:=He AX (BU s)
def Cg (s:List UInt8):List UInt8:=Lib.trimPrefix (Db s) [36]
theorem JI (p:Int→Bool) (s:List UInt8):(Ah p s).length≤s.length:=by
 unfold Ah;exact (List.takeWhile_sublist _).length_le
theorem OO (p:Int→Bool) (s:List UInt8):(He p s).length≤s.length:=by
 unfold He;exact (List.dropWhile_sublist _).length_le
theorem FW (s p:List UInt8):(Lib.trimPrefix s p).length≤s.length:=by
 unfold Lib.trimPrefix;split<;>simp
theorem Px (s p:List UInt8):(Lib.cut s p).1.length≤s.length:=by
 unfold Lib.cut;split<;>simp;omega
theorem UB (s p:List UInt8):(Lib.cut s p).2.1.length≤s.length:=by
 unfold Lib.cut;split<;>simp
theorem Hu (n:Int):(EP n).length≤2:=by
 unfold EP;split
 ·simp
 ·split<;>simp
theorem Fa (b:Bool):(Dj b).length≤1:=by cases b<;>simp [Dj]
theorem E8 (c:Int) (w:World):AA Tryz.prog 122 [.int .u8 c] w (λv w'=>v=.bool (AX c)∧Ae w w'):=by
 refine AL Tryz.func122 Tryz.ntmps122 ?_;refine Sa ?_;refine B6 (λh1=>?_) λh1=>?_
 all_goals
  refine Sa ?_;refine QW.body1 Tryz.results122 rfl ⟨?_,Chg.refl _ _⟩;simp [AX,h1]
theorem N9 (c:Int) (w:World):AA Tryz.prog 85 [.int .u8 c] w (λv w'=>v=.bool (Al c)∧Ae w w'):=by
 refine AL Tryz.func85 Tryz.ntmps85 ?_;refine Sa ?_;refine B6 (λh1=>?_) λh1=>?_
 all_goals
  refine Sa ?_;refine QW.body1 Tryz.results85 rfl ⟨?_,Chg.refl _ _⟩;simp [Al,h1]
theorem Mu (c:Int) (w:World):AA Tryz.prog 84 [.int .u8 c] w (λv w'=>v=.bool (ER c)∧Ae w w'):=by
 refine AL Tryz.func84 Tryz.ntmps84 ?_;refine Sa ?_;refine Ap rfl rfl (E8 _ _) ?_;rintro v w' ⟨rfl,hx⟩;refine Sa ?_;refine B6 (λh1=>?_) λh1=>?_
 ·refine Sa ?_;refine QW.body1 Tryz.results84 rfl ⟨?_,hx⟩;simp [ER,h1]
 ·refine Sa ?_;refine B6 (λh2=>?_) λh2=>?_
  all_goals
   refine Sa ?_;refine QW.body1 Tryz.results84 rfl ⟨?_,hx⟩;simp [ER,h1,h2]
theorem Pb (s:List UInt8) (w:World) (hs:s.length≤9223372036854775807):AA Tryz.prog 60 [Aj s] w (λv w'=>v=.bool (DJ s)∧Ae w w'):=by
 refine AL Tryz.func60 Tryz.ntmps60 ?_;refine Sa ?_;refine B6 (λh0=>?_) λh0=>?_
 ·have h0:s=[]:=by simpa using h0
  subst h0;refine Sa ?_;refine QW.body1 Tryz.results60 rfl ⟨rfl,Chg.refl _ _⟩
 have h0:s≠[]:=by simpa using h0
 have hp:0<s.length:=List.length_pos_iff.2 h0;refine Sa ?_;refine B6 (λh1=>?_) λh1=>?_
 ·have h1:12<s.length:=by simp at h1;omega
  refine Sa ?_;refine QW.body1 Tryz.results60 rfl ⟨by rw [M4 h1],Chg.refl _ _⟩
 have h1:s.length≤12:=by simp at h1;omega
 refine Sa ?_;refine Ap rfl rfl (Mu _ _) ?_;rintro v w1 ⟨rfl,hx⟩;refine Sa ?_;refine Am (λh2=>?_) λh2=>?_
 ·refine Sa ?_;refine QW.body1 Tryz.results60 rfl ⟨?_,hx⟩;rw [KA]
  simpa using h2
 have h2:ER (Ab s 0)=true:=by simpa using h2
 refine Sa ?_;refine CW.loop (ι:=Nat) (λk w'=>k≤s.length∧Ae w w'∧∀j,j<k→QQ (Ab s j)=true) (λk=>[(0,Aj s),(18,.int .i64 s.length),(19,.int .i64 k)]) (λk=>s.length - k) 0 ⟨by omega,hx,by omega⟩ Bh ?_;rintro k w2 ⟨hk,a1,a0⟩;refine Sa ?_;refine Am (λh3=>?_) λh3=>?_
 ·have h3:k<s.length:=by simpa using h3
  refine Sa ?_;refine Ap rfl rfl (Mu _ _) ?_;rintro v w3 ⟨rfl,a2⟩;refine Sa ?_;refine B6 (λh4=>?_) λh4=>?_
  ·refine Sa ?_;refine Ap rfl rfl (N9 _ _) ?_;rintro v w4 ⟨rfl,a4⟩;refine Sa ?_;refine Am (λh5=>?_) λh5=>?_
   ·refine Sa ?_;refine QW.body1 Tryz.results60 rfl ⟨?_,(a1.trans a2).trans a4⟩;rw [PU h3];simp at h4 h5;simp [QQ,h4,h5]
   ·refine Sa ?_;refine QW.again (k+1) ⟨by omega,(a1.trans a2).trans a4,?_⟩ Bh (by omega);intro j hj;by_cases a3:j=k
    ·subst a3;simp at h5;simp [QQ,h5]
    ·exact a0 j (by omega)
  ·refine Sa ?_;refine QW.again (k+1) ⟨by omega,a1.trans a2,?_⟩ Bh (by omega);intro j hj;by_cases a3:j=k
   ·subst a3;simp at h4;simp [QQ,h4]
   ·exact a0 j (by omega)
 ·have h3:k=s.length:=by simp at h3;omega
  subst h3;refine Sa ?_;refine QW.body1 Tryz.results60 rfl ⟨?_,a1⟩;rw [M5 h0 h1 h2 a0]
theorem PM (b:Bool) (w:World):AA Tryz.prog 218 [.bool b] w (λv w'=>v=Aj (Dj b)∧Ae w w'):=by
 cases b
 all_goals
  refine AL Tryz.func218 Tryz.ntmps218 ?_;refine Sa ?_;refine QW.body1 Tryz.results218 rfl ⟨rfl,Chg.refl _ _⟩
theorem VD (n:Int) (h0:-9223372036854775808≤n) (h1:n≤9223372036854775807) (w:World):AA Tryz.prog 219 [.int .i64 n] w (λv w'=>v=Aj (EP n)∧Ae w w'):=by
 refine AL Tryz.func219 Tryz.ntmps219 ?_;refine Sa ?_;refine B6 (λh2=>?_) λh2=>?_
 ·have h2:n<0:=by simpa using h2
  refine Sa ?_;refine QW.body1 Tryz.results219 rfl ⟨?_,Chg.refl _ _⟩;rw [EP,if_pos (by omega)]
 have h2:0≤n:=by simpa using h2
 refine Sa ?_;refine Am (λh3=>?_) λh3=>?_
 ·have h3:701<n:=by simpa using h3
  refine Sa ?_;refine QW.body1 Tryz.results219 rfl ⟨?_,Chg.refl _ _⟩;rw [EP,if_pos (by omega)]
 have h3:n≤701:=by simpa using h3
 refine Sa ?_;refine Am (λh4=>?_) λh4=>?_
 ·have h4:n<26:=by simpa using h4
  refine Sa ?_;refine QW.body1 Tryz.results219 rfl ⟨?_,Chg.refl _ _⟩;rw [EP,if_neg (by omega),if_pos h4];rfl
 ·have h4:26≤n:=by simpa using h4
  refine Sa ?_;refine QW.body1 Tryz.results219 rfl ⟨?_,Chg.refl _ _⟩;rw [EP,if_neg (by omega),if_neg (by omega)];rfl
theorem KS (x:Co) (hs:x.sheet.length≤9223372036854775807) (w:World):AA Tryz.prog 181 [IQ x] w (λv w'=>v=.bool (AP x)∧Ae w w'):=by
 obtain ⟨sh,c,r,ac,ar⟩:=x;simp only [IQ];refine AL Tryz.func181 Tryz.ntmps181 ?_;refine Sa ?_;refine CZ λb w1 hb hx hB=>?_;refine Sa ?_;refine B6 (λh1=>?_) λh1=>?_
 ·refine Sa ?_;refine B6 (λh2=>?_) λh2=>?_
  ·refine Sa ?_;refine B6 (λh3=>?_) λh3=>?_
   ·refine Sa ?_;refine B6 (λh4=>?_) λh4=>?_
    ·refine Sa ?_;refine QW.body1 Tryz.results181 rfl ⟨?_,hx⟩;simp [AP, *]
    ·refine Sa ?_;refine QW.body1 Tryz.results181 rfl ⟨?_,hx⟩;simp [AP, *]
   ·refine Sa ?_;refine QW.body1 Tryz.results181 rfl ⟨?_,hx⟩;simp [AP, *]
  ·refine Sa ?_;refine QW.body1 Tryz.results181 rfl ⟨?_,hx⟩;simp [AP, *]
 ·refine Sa ?_;refine Ap rfl rfl (Pb _ _ hs) ?_;rintro v w2 ⟨rfl,a0⟩;replace hB:=hB.ext a0;replace hx:=hx.trans a0;refine Sa ?_;refine B6 (λh0=>?_) λh0=>?_
  ·refine Sa ?_;refine B6 (λh2=>?_) λh2=>?_
   ·refine Sa ?_;refine B6 (λh3=>?_) λh3=>?_
    ·refine Sa ?_;refine B6 (λh4=>?_) λh4=>?_
     ·refine Sa ?_;refine QW.body1 Tryz.results181 rfl ⟨?_,hx⟩;simp [AP, *]
     ·refine Sa ?_;refine QW.body1 Tryz.results181 rfl ⟨?_,hx⟩;simp [AP, *]
    ·refine Sa ?_;refine QW.body1 Tryz.results181 rfl ⟨?_,hx⟩;simp [AP, *]
   ·refine Sa ?_;refine QW.body1 Tryz.results181 rfl ⟨?_,hx⟩;simp [AP, *]
  ·refine Sa ?_;refine QW.body1 Tryz.results181 rfl ⟨?_,hx⟩;simp [AP, *]
theorem Pd (s:List UInt8) (hs:s.length≤1000000) (w:World):AA Tryz.prog 235 [Aj s] w (λv w'=>v=Cz s∧Ae w w'):=by
 match s,hs with
 | [],_=>
  refine AL Tryz.func235 Tryz.ntmps235 ?_;refine Sa ?_
  refine QW.body2 Tryz.results235 rfl rfl ⟨rfl,Chg.refl _ _⟩
 | a::b::c::l,hs=>
  simp at hs;refine AL Tryz.func235 Tryz.ntmps235 ?_;refine Sa ?_;refine Am (λh=>?_) λh=>?_
  ·refine Sa ?_;refine QW.body2 Tryz.results235 rfl rfl ⟨rfl,Chg.refl _ _⟩
  ·simp at h;omega
 | [a],_=>
  refine AL Tryz.func235 Tryz.ntmps235 ?_;refine Sa ?_;refine CW.rounds 2 ?_;refine Sa ?_;refine Ap rfl rfl (E8 _ _) ?_;rintro v w1 ⟨rfl,hx⟩;refine Sa ?_;refine Am (λh1=>?_) λh1=>?_
  ·refine Sa ?_;refine QW.body2 Tryz.results235 rfl rfl ⟨?_,hx⟩;have h1:AX (Ab [a] 0)=false:=by simpa using h1
   simp [Cz,AO,h1]
  have h1:AX (Ab [a] 0)=true:=by simpa using h1
  have hb:=CA [a] 0;have a1:65≤Ab [a] 0∧Ab [a] 0≤90:=by simpa [AX] using h1
  have e0:Ab [a] (0:Int).toNat=Ab [a] 0:=rfl;refine Sa ?_;refine QW.body2 Tryz.results235 rfl rfl ⟨?_,hx⟩
  simp [Cz,AO,h1]
 | [a,b],_=>
  refine AL Tryz.func235 Tryz.ntmps235 ?_;refine Sa ?_;refine CW.rounds 3 ?_;refine Sa ?_;refine Ap rfl rfl (E8 _ _) ?_;rintro v w1 ⟨rfl,hx⟩;refine Sa ?_;refine Am (λh1=>?_) λh1=>?_
  ·refine Sa ?_;refine QW.body2 Tryz.results235 rfl rfl ⟨?_,hx⟩;have h1:AX (Ab [a,b] 0)=false:=by simpa using h1
   simp [Cz,AO,h1]
  have h1:AX (Ab [a,b] 0)=true:=by simpa using h1
  have hb:=CA [a,b] 0;have a1:65≤Ab [a,b] 0∧Ab [a,b] 0≤90:=by simpa [AX] using h1
  have e0:Ab [a,b] (0:Int).toNat=Ab [a,b] 0:=rfl;refine Sa ?_;refine Ap rfl rfl (E8 _ _) ?_;rintro v w2 ⟨rfl,a0⟩;refine Sa ?_;refine Am (λh3=>?_) λh3=>?_
  ·refine Sa ?_;refine QW.body2 Tryz.results235 rfl rfl ⟨?_,hx.trans a0⟩;have h3:AX (Ab [a,b] 1)=false:=by simpa using h3
   simp [Cz,AO,h1,h3]
  have h3:AX (Ab [a,b] 1)=true:=by simpa using h3
  have hc:=CA [a,b] 1;have a2:65≤Ab [a,b] 1∧Ab [a,b] 1≤90:=by simpa [AX] using h3
  have e1:Ab [a,b] (0+1:Int).toNat=Ab [a,b] 1:=rfl;refine Sa ?_;refine QW.body2 Tryz.results235 rfl rfl ⟨?_,hx.trans a0⟩;simp [Cz,AO,h1,h3]
theorem Jc (x:Co) (hs:x.sheet.length≤1000) (w:World) (g:CU w) :
  AA Tryz.prog 185 [IQ x] w (λv w'=>v=Aj (Cd x)∧Ae w w'):=by
 obtain ⟨sh,c,r,ac,ar⟩:=x;simp only at hs;simp only [IQ];refine AL Tryz.func185 Tryz.ntmps185 ?_;refine Sa ?_;refine CZ λb w1 hb hx hB=>?_;refine Sa ?_;refine Ap rfl rfl (KS ⟨sh,c,r,ac,ar⟩ (by simp only;omega) w1) ?_;rintro v w2 ⟨rfl,a0⟩;replace hB:=hB.ext a0;replace hx:=hx.trans a0;refine Sa ?_;refine Am (λh1=>?_) λh1=>?_
 ·refine Sa ?_;refine QW.body1 Tryz.results185 rfl ⟨?_,hx⟩;have h1:AP ⟨sh,c,r,ac,ar⟩=false:=by simpa using h1
  simp [Cd,h1]
 have h1:AP ⟨sh,c,r,ac,ar⟩=true:=by simpa using h1
 have a2:=Fa ac;have a3:=Fa ar;have a4:=Hu c;have hm:0≤c∧c≤701∧0≤r∧r≤998:=by
  simp only [AP,Bool.and_eq_true,decide_eq_true_eq] at h1;exact ⟨h1.1.1.1.2,h1.1.1.2,h1.1.2,h1.2⟩
 have a5:=Lib.itoa_length_le (r+1) (by omega) (by omega);refine Sa ?_;refine Hk ?_;refine Sq ?_;refine QL.call0 rfl rfl (λw3 _=>PM ac w3) ?_;refine Sq ?_;refine QL.call0 rfl rfl (λw3 _=>VD c (by omega) (by omega) w3) ?_;refine Sq ?_;refine QL.call0 rfl rfl (λw3 _=>PM ar w3) ?_;refine Sq ?_;refine QL.call0 rfl rfl (λw3 h3=>L8 (r+1) (by omega) (by omega) w3 (g.ext (hx.trans h3))) ?_;refine Sq ?_;refine QL.nil λw3 a1=>?_;replace hB:=hB.ext a1;replace hx:=hx.trans a1;refine Sa ?_;refine Am (λh2=>?_) λh2=>?_
 ·have h2:sh≠[]:=by simpa using h2
  refine Sa ?_;refine QW.body1 Tryz.results185 rfl ⟨?_,hx⟩;rw [Cd,if_pos h1];simp [B9,h2]
 ·have h2:sh=[]:=by simpa using h2
  refine Sa ?_;refine QW.body1 Tryz.results185 rfl ⟨?_,hx⟩;rw [Cd,if_pos h1];simp [B9,h2]
theorem QG (s:List UInt8) (b:Nat) (w:World) (hB:Blk w b [Aj s] 253):AA Tryz.prog 233 [.pointer (some ⟨b,0,none⟩)] w
  (λv w'=>v=.bool (Lib.hasPrefix s [36])∧Chg [b] w w'∧Blk w' b [Aj (Lib.trimPrefix s [36])] 253):=by
 refine AL Tryz.func233 Tryz.ntmps233 ?_;refine Sa ?_;refine Ap rfl rfl (Np s [36] w) ?_;rintro v w1 ⟨rfl,hx⟩;replace hB:=hB.ext hx;refine Sa ?_;refine BS λw2 hc a0=>?_;refine Sa ?_;exact QW.body1 Tryz.results233 rfl ⟨rfl,hx.chg.same hc,a0⟩
theorem Oq (p:Int→Bool) (f:Nat) (hp:∀(c:Int) (w:World),AA Tryz.prog f [.int .u8 c] w (λv w'=>v=.bool (p c)∧Ae w w')) (s:List UInt8) (hs:s.length≤1000000) (b:Nat) (w:World) (hB:Blk w b [Aj s] 253) :
  AA Tryz.prog 234 [.pointer (some ⟨b,0,none⟩),.func (.func f) #[] #[]] w
  (λv w'=>v=Aj (Ah p s)∧Chg [b] w w'∧Blk w' b [Aj (He p s)] 253):=by
 refine AL Tryz.func234 Tryz.ntmps234 ?_;refine Sa ?_;refine CW.loop (ι:=Nat) (λk w'=>k≤s.length∧Ae w w'∧∀j,j<k→p (Ab s j)=true) (λk=>[(0,.pointer (some ⟨b,0,none⟩)),(1,.func (.func f) #[] #[]),(5,.int .i64 k)]) (λk=>s.length - k) 0 ⟨by omega,Chg.refl _ _,by omega⟩ Bh ?_;rintro k w1 ⟨hk,hx,a0⟩;replace hB:=hB.ext hx;refine Sa ?_;refine B6 (λh1=>?_) λh1=>?_
 ·have h1:k<s.length:=by simpa using h1
  refine Sa ?_;refine LW.call (fs:=[]) (cs:=[]) rfl rfl rfl (hp _ _) ?_;rintro v w2 ⟨rfl,a3⟩;replace hB:=hB.ext a3;replace hx:=hx.trans a3;refine Sa ?_;refine Am (λh2=>?_) λh2=>?_
  ·have h2:p (Ab s k)=true:=h2;refine Sa ?_;refine QW.again (k+1) ⟨by omega,hx,?_⟩ Bh (by omega);intro j hj;by_cases a4:j=k
   ·subst a4;exact h2
   ·exact a0 j (by omega)
  ·have h2:p (Ab s k)=false:=h2;have a1:=JJ p s k hk a0 (Or.inr h2);refine Sa ?_;refine LW.slice_str (i:=0) (j:=k) rfl rfl rfl rfl ⟨_,_,rfl,rfl⟩ (by omega) hk rfl ?_;refine Sa ?_;refine LW.slice_str (i:=k) (j:=s.length) rfl rfl rfl ⟨_,_,rfl,rfl⟩ rfl hk (by omega) rfl ?_;refine Sa ?_;refine BS λw3 hc a2=>?_;refine Sa ?_;refine QW.body1 Tryz.results234 rfl ⟨?_,hx.chg.same hc,?_⟩
   ·rw [LX,a1.1]
   ·rw [←a1.2,←DW];exact a2
 ·have h1:k=s.length:=by simp at h1;omega
  have a1:=JJ p s k hk a0 (Or.inl h1);refine Sa ?_;refine LW.slice_str (i:=0) (j:=k) rfl rfl rfl rfl ⟨_,_,rfl,rfl⟩ (by omega) hk rfl ?_;refine Sa ?_;refine LW.slice_str (i:=k) (j:=s.length) rfl rfl rfl ⟨_,_,rfl,rfl⟩ rfl hk (by omega) rfl ?_;refine Sa ?_;refine BS λw3 hc a2=>?_;refine Sa ?_;refine QW.body1 Tryz.results234 rfl ⟨?_,hx.chg.same hc,?_⟩
  ·rw [LX,a1.1]
  ·rw [←a1.2,←DW];exact a2
def MU (s:List UInt8):Option Int:=match Lib.atoiAll (Ah Al (Cg s)) with
 | .ok n=>some n
 | _=>none
def Di (s:List UInt8):Co:=⟨CD s,(AO (Ah AX (BU s))).getD 0,IntKind.i64.wrap ((MU s).getD 0 - 1),Lib.hasPrefix (Cy s) [36],Lib.hasPrefix (Db s) [36]⟩
def AZ (s:List UInt8):Bool:=(AO (Ah AX (BU s))).isSome&&(MU s).isSome&&decide (Cd (Di s)=s)&&!decide (s=[])
def HE:Co:=⟨[],0,0,false,false⟩
def EV (s:List UInt8):Value:=if AZ s then .tuple #[IQ (Di s),.bool true] else .tuple #[IQ HE,.bool false]
theorem JC (s:List UInt8):Cz s=.tuple #[.int .i64 ((AO s).getD 0),.bool (AO s).isSome]:=by
 unfold Cz;cases AO s<;>rfl
theorem I2 (s:List UInt8):-1000000≤(AO s).getD 0∧(AO s).getD 0≤1000000:=by
 unfold AO
 split
 ·rename_i a;have:=CA [a] 0
  split<;>simp<;>omega
 ·rename_i a b;have:=CA [a,b] 0;have:=CA [a,b] 1
  split<;>simp<;>omega
 ·simp
theorem Pe (s:List UInt8) (hs:s.length≤1000) (w:World) (g:CU w):AA Tryz.prog 215 [Aj s] w (λv w'=>v=EV s∧Ae w w'):=by
 refine AL Tryz.func215 Tryz.ntmps215 ?_;refine Sa ?_;refine BP λR w1 ay hx hR=>?_;refine Sa ?_;refine BP λC w2 az ah hC=>?_;have b0:R<C:=by have:=hR.lt;omega
 replace hR:Blk w2 R (AQ HE) 113:=hR.ext ah;replace hC:Blk w2 C (AQ HE) 113:=hC;replace hx:=hx.trans ah;refine Sa ?_;refine CZ λX w3 b1 af hX=>?_;have b2:C<X:=by have:=hC.lt;omega
 replace hR:=hR.ext af;replace hC:=hC.ext af;replace hX:Blk w3 X [Aj s] 253:=hX;replace hx:=hx.trans af;refine Sa ?_;refine Ap rfl rfl (VE s [33] (by omega) w3 (g.ext hx)) ?_;rintro v w4 ⟨rfl,ac⟩;replace hR:=hR.ext ac;replace hC:=hC.ext ac;replace hX:=hX.ext ac;replace hx:=hx.trans ac;refine Sl ?_;apply LW.nil;apply QW.then_n;refine CW.cut (ι:=Unit) (λ_ w'=>Ae w w'∧Blk w' R (AQ HE) 113∧Blk w' C [Aj (CD s),.int .i64 0,.int .i64 0,.bool false,.bool false] 113∧Blk w' X [Aj (Cy s)] 253)
  (λ_=>[(0,Aj s),(2,.pointer (some ⟨R,0,none⟩)),(3,.bool false),(4,.pointer (some ⟨C,0,none⟩)),(5,.pointer (some ⟨X,0,none⟩))]) ?_ ?_
 ·refine Sa ?_;refine Am (λh1=>?_) λh1=>?_
  ·refine Sa ?_;refine BS λw5 ai aj=>?_;replace hR:=hR.chg ai (by simp;omega);replace hX:=hX.chg ai (by simp;omega);replace hx:=hx.step ai (by simp;omega);refine Sa ?_;refine BS λw6 a7 ap=>?_;replace hR:=hR.chg a7 (by simp;omega);replace aj:=aj.chg a7 (by simp;omega);replace hx:=hx.step a7 (by simp;omega);refine Sa ?_;refine QW.head () ⟨hx,hR,?_,?_⟩ C2
   ·simpa [CD,h1,AQ,HE] using aj
   ·simpa [Cy,h1] using ap
  ·refine Sa ?_;refine QW.head () ⟨hx,hR,?_,?_⟩ C2
   ·simpa [CD,h1,AQ,HE] using hC
   ·simpa [Cy,h1] using hX
 clear hx hR hC hX ah af ac;rintro _ w5 ⟨hx,hR,hC,hX⟩;have b3:(Cy s).length≤s.length:=by
  unfold Cy;split
  ·exact UB s [33]
  ·omega
 have ao:(BU s).length≤1000:=Nat.le_trans (FW _ _) (by omega);have aq:(Db s).length≤1000:=Nat.le_trans (OO _ _) ao;have ar:(Cg s).length≤1000:=Nat.le_trans (FW _ _) aq;have b4:(Ah AX (BU s)).length≤1000:=Nat.le_trans (JI _ _) ao;have b5:(Ah Al (Cg s)).length≤1000:=Nat.le_trans (JI _ _) ar;have au:(CD s).length≤1000:=by
  unfold CD;split
  ·exact Nat.le_trans (Px s [33]) hs
  ·simp
 refine Sa ?_;refine LW.call (fs:=[.pointer (some ⟨X,0,none⟩)]) (cs:=[]) rfl rfl rfl (QG _ X w5 hX) ?_;rintro v w6 ⟨rfl,a7,hX⟩;replace hR:=hR.chg a7 (by simp;omega);replace hC:=hC.chg a7 (by simp;omega);replace hx:=hx.step a7 (by simp;omega);refine Sa ?_;refine BS λw7 ak hC=>?_;replace hR:=hR.chg ak (by simp;omega);replace hX:=hX.chg ak (by simp;omega);replace hx:=hx.step ak (by simp;omega);refine Sa ?_;refine LW.call (fs:=[.pointer (some ⟨X,0,none⟩)]) (cs:=[]) rfl rfl rfl (Oq AX _ E8 (BU s) (by omega) X w7 hX) ?_;rintro v w8 ⟨rfl,al,hX⟩;replace hR:=hR.chg al (by simp;omega);replace hC:=hC.chg al (by simp;omega);replace hx:=hx.step al (by simp;omega);refine Sa ?_;refine Ap rfl rfl (Pd _ (by omega) w8) ?_;rintro v w9 ⟨rfl,ag⟩;rw [JC];replace hR:=hR.ext ag;replace hC:=hC.ext ag;replace hX:=hX.ext ag;replace hx:=hx.trans ag;refine Sa ?_;refine LW.call (fs:=[.pointer (some ⟨X,0,none⟩)]) (cs:=[]) rfl rfl rfl (QG (Db s) X w9 hX) ?_;rintro v b6 ⟨rfl,a8,hX⟩;replace hR:=hR.chg a8 (by simp;omega);replace hC:=hC.chg a8 (by simp;omega);replace hx:=hx.step a8 (by simp;omega);refine Sa ?_;refine BS λav a9 hC=>?_;replace hR:=hR.chg a9 (by simp;omega);replace hX:=hX.chg a9 (by simp;omega);replace hx:=hx.step a9 (by simp;omega);refine Sa ?_;refine LW.call (fs:=[.pointer (some ⟨X,0,none⟩)]) (cs:=[]) rfl rfl rfl (Oq Al _ N9 (Cg s) (by omega) X av hX) ?_;rintro v aw ⟨rfl,aa,hX⟩;replace hR:=hR.chg aa (by simp;omega);replace hC:=hC.chg aa (by simp;omega);replace hx:=hx.step aa (by simp;omega);refine Sa ?_;refine Ap rfl rfl (Hm _ (by omega) aw (g.ext hx)) ?_;rintro v b7 ⟨hv,a6⟩;replace hR:=hR.ext a6;replace hC:=hC.ext a6;replace hX:=hX.ext a6;replace hx:=hx.trans a6;have b8:=I2 (Ah AX (BU s))
 cases a5:MU s with
 | some z=>
  have hv:v=.tuple #[.int .i64 z,.nilIface]:=by
   unfold MU at a5;unfold Ix at hv
   split at a5
   ·rename_i m hm;rw [hm] at hv;simp only [Option.some.injEq] at a5;subst a5;exact hv
   ·cases a5
  subst hv;refine Sa ?_;refine LW.arith (op:=.sub) rfl rfl rfl rfl rfl ?_;refine Sa ?_;refine BS λax a3 hC=>?_;replace hR:=hR.chg a3 (by simp;omega);replace hx:=hx.step a3 (by simp;omega);refine Sa ?_;refine BS λam a4 hC=>?_;replace hR:=hR.chg a4 (by simp;omega);replace hx:=hx.step a4 (by simp;omega);replace hC:Blk am C (AQ (Di s)) 113:=by
   have e:AQ (Di s)=[Aj (CD s),.int .i64 ((AO (Ah AX (BU s))).getD 0),.int .i64 (IntKind.i64.wrap (z - 1)),.bool (Lib.hasPrefix (Cy s) [36]),.bool (Lib.hasPrefix (Db s) [36])]:=by
    simp [AQ,Di,a5]
   rw [e];exact hC
  refine Sa ?_
  cases an:AO (Ah AX (BU s)) with
  | none=>
   have a2:AZ s=false:=by simp [AZ,an]
   refine Sa ?_;refine AM λad a0 a1=>?_;refine Sa ?_;refine QW.body_ct Tryz.results215 rfl a1 rfl rfl rfl rfl ⟨?_,hx.step a0 (by simp;omega)⟩;rw [EV,a2]
   rfl
  | some cz=>
   refine Sa ?_;refine Ap rfl rfl (Jc (Di s) au am (g.ext hx)) ?_;rintro v b9 ⟨rfl,ab⟩;replace hR:=hR.ext ab;replace hC:=hC.ext ab;replace hx:=hx.trans ab;refine Sa ?_;refine B6 (λh1=>?_) λh1=>?_
   ·have a2:AZ s=false:=by
     have h1:¬Cd (Di s)=s:=by simpa using h1
     simp [AZ,h1]
    refine Sa ?_;refine AM λad a0 a1=>?_;refine Sa ?_;refine QW.body_ct Tryz.results215 rfl a1 rfl rfl rfl rfl ⟨?_,hx.step a0 (by simp;omega)⟩;rw [EV,a2];rfl
   ·have h1:Cd (Di s)=s:=by simpa using h1
    refine Sa ?_;refine Am (λh2=>?_) λh2=>?_
    ·have a2:AZ s=false:=by
      have h2:s=[]:=by simpa using h2
      simp [AZ,h2]
     refine Sa ?_;refine AM λad a0 a1=>?_;refine Sa ?_;refine QW.body_ct Tryz.results215 rfl a1 rfl rfl rfl rfl ⟨?_,hx.step a0 (by simp;omega)⟩;rw [EV,a2];rfl
    ·have h2:¬s=[]:=by simpa using h2
     have ae:AZ s=true:=by simp [AZ,an,a5,h1,h2]
     refine Sa ?_;refine AM λad a0 a1=>?_;refine Sa ?_;refine QW.body_ct Tryz.results215 rfl a1 rfl rfl rfl rfl ⟨?_,hx.step a0 (by simp;omega)⟩;rw [EV,if_pos ae]
     rfl
 | none=>
  have hv:∃z t x,v=.tuple #[.int .i64 z,.iface t x]:=by
   unfold MU at a5;unfold Ix at hv;cases ha:Lib.atoiAll (Ah Al (Cg s))<;>simp only [ha,reduceCtorEq] at a5 hv<;>exact hv
  obtain ⟨z,te,xe,rfl⟩:=hv;have a2:AZ s=false:=by simp [AZ,a5]
  refine Sa ?_;refine LW.arith (op:=.sub) rfl rfl rfl rfl rfl ?_;refine Sa ?_;refine BS λax a3 hC=>?_;replace hR:=hR.chg a3 (by simp;omega);replace hx:=hx.step a3 (by simp;omega);refine Sa ?_;refine BS λam a4 hC=>?_;replace hR:=hR.chg a4 (by simp;omega);replace hx:=hx.step a4 (by simp;omega)
  cases an:AO (Ah AX (BU s)) with
  | none=>
   refine Sa ?_;refine AM λad a0 a1=>?_;refine Sa ?_;refine QW.body_ct Tryz.results215 rfl a1 rfl rfl rfl rfl ⟨?_,hx.step a0 (by simp;omega)⟩;rw [EV,a2]
   rfl
  | some cz=>
   refine Sa ?_;refine AM λad a0 a1=>?_;refine Sa ?_;refine QW.body_ct Tryz.results215 rfl a1 rfl rfl rfl rfl ⟨?_,hx.step a0 (by simp;omega)⟩;rw [EV,a2];rfl
theorem Jj {l:List UInt8} {i:Nat} {c:UInt8} (hi:i<l.length):Ab l i=(c.toNat:Int)↔l[i]?=some c:=by
 rw [Bz hi,List.getElem?_eq_getElem hi];constructor
 ·intro h;have:l[i].toNat=c.toNat:=by omega
  rw [UInt8.toNat_inj.1 this]
 ·intro h;simp only [Option.some.injEq] at h;rw [h]
theorem Vi (s:List UInt8) (i:Nat):Lib.occAt s [33] i=decide (s[i]?=some 33):=by
 unfold Lib.occAt
 cases h:s.drop i with
 | nil=>
  have:s.length≤i:=by
   have:=congrArg List.length h;simp at this;omega
  simp [List.getElem?_eq_none this]
 | cons c r=>
  have a0:i<s.length:=by
   have:=congrArg List.length h;simp at this;omega
  have:s[i]?=some c:=by
   have:=congrArg (λl:List UInt8=>l[0]?) h
   simpa using this
  rw [this];rw [Bool.eq_iff_iff];simp [List.isPrefixOf];exact eq_comm
theorem JW {s:List UInt8} {k:Nat} (hk:k<s.length) (h:Ab s k=33) (hn:∀j,j<k→Ab s j≠33):Lib.cut s [33]=(s.take k,s.drop (k+1),true):=by
 have hi:Lib.index s [33]=k:=by
  refine Lib.index_hit (λj hj=>?_) (by omega) ?_
  ·rw [Vi,decide_eq_false_iff_not];intro hh;exact hn j hj ((Jj (c:=33) (by omega)).2 hh)
  ·rw [Vi,decide_eq_true_eq];exact (Jj (c:=33) hk).1 h
 unfold Lib.cut;rw [hi,if_pos (by omega)];simp
theorem Py {s:List UInt8} (hn:∀j,j<s.length→Ab s j≠33):Lib.cut s [33]=(s,[],false):=by
 have hi:Lib.index s [33]=-1:=by
  refine Lib.index_past (i:=s.length) (by simp) (λj hj=>?_) (by simp);rw [Vi,decide_eq_false_iff_not];intro hh;exact hn j hj ((Jj (c:=33) hj).2 hh)
 unfold Lib.cut;rw [hi,if_neg (by omega)]
theorem J9 (l:List UInt8):Lib.hasPrefix l [36]=decide (0<l.length∧Ab l 0=36):=by
 cases l with
 | nil=>rfl
 | cons c r=>
  rw [Bool.eq_iff_iff];have:=Jj (l:=c::r) (i:=0) (c:=36) (by simp);simp [Lib.hasPrefix,List.isPrefixOf];rw [show (36:Int)=(((36:UInt8).toNat:Nat):Int) from rfl,this];simp [eq_comm]
theorem HO (l:List UInt8):Lib.trimPrefix l [36]=if 0<l.length∧Ab l 0=36 then l.drop 1 else l:=by
 unfold Lib.trimPrefix;rw [J9];simp only [decide_eq_true_eq];rfl
def d3 (n:Nat):List UInt8:=
 if n<10 then [ch (48+(n:Int))] else if n<100 then [ch (48+((n / 10:Nat):Int)),ch (48+(n:Int) % 10)] else [ch (48+((n / 100:Nat):Int)),ch (48+((n / 10:Nat):Int) % 10),ch (48+(n:Int) % 10)]
theorem CE {u:Nat} (h:u<10):Lib.decDigits u=[ch (48+(u:Int))]:=by
 rw [Lib.decDigits,dif_pos h];rfl
theorem DX {u:Nat} (h:10≤u):Lib.decDigits u=Lib.decDigits (u / 10)++[ch (48+(u:Int) % 10)]:=by
 rw [Lib.decDigits,dif_neg (by omega)]
 congr 2
theorem Xo {n:Nat} (h:n<1000):Lib.decDigits n=d3 n:=by
 unfold d3
 split
 ·rename_i h1;exact CE h1
 ·rename_i h1;rw [DX (by omega)]
  split
  ·rw [CE (by omega)];rfl
  ·rw [DX (by omega),CE (by omega)];have:n / 10 / 10=n / 100:=by omega
   rw [this];rfl
def Qh (n:Nat):Bool:=(d3 n).all (λc=>Al (c.toNat:Int))&&decide (0<(d3 n).length)&&decide ((d3 n).length≤3)&&decide (Lib.atoiAll (d3 n)=.ok (n:Int))
theorem QX:∀n:Fin 1000,Qh n.val=true:=by decide +kernel
theorem Sm {z:Int} (h0:0≤z) (h1:z<1000):Lib.itoa z=d3 z.toNat:=by
 unfold Lib.itoa;rw [if_neg (by omega),Xo (by omega)]
theorem FO {z:Int} (h0:0≤z) (h1:z<1000):(∀c∈Lib.itoa z,Al (c.toNat:Int)=true)∧0<(Lib.itoa z).length∧(Lib.itoa z).length≤3∧Lib.atoiAll (Lib.itoa z)=.ok z:=by
 have:=QX ⟨z.toNat,by omega⟩;rw [Sm h0 h1];simp only [Qh,Bool.and_eq_true,List.all_eq_true,decide_eq_true_eq] at this;obtain ⟨⟨⟨a1,a2⟩,a3⟩,a4⟩:=this;exact ⟨a1,a2,a3,by rw [a4];congr 1;omega⟩
def W9 (n:Nat):Bool:=(EP (n:Int)).all (λc=>AX (c.toNat:Int))&&decide (0<(EP (n:Int)).length)&&decide (AO (EP (n:Int))=some (n:Int))
theorem Uz:∀n:Fin 702,W9 n.val=true:=by decide +kernel
theorem LV {z:Int} (h0:0≤z) (h1:z≤701):(∀c∈EP z,AX (c.toNat:Int)=true)∧0<(EP z).length∧AO (EP z)=some z:=by
 have:=Uz ⟨z.toNat,by omega⟩;have e:((z.toNat:Nat):Int)=z:=by omega
 simp only [W9,e,Bool.and_eq_true,List.all_eq_true,decide_eq_true_eq] at this;exact ⟨this.1.1,this.1.2,this.2⟩
theorem Ds {r:Co} (h:AP r=true):(r.sheet=[]∨DJ r.sheet=true)∧0≤r.col∧r.col≤701∧0≤r.row∧r.row≤998:=by
 simp only [AP,Bool.and_eq_true,Bool.or_eq_true,decide_eq_true_eq] at h;exact ⟨h.1.1.1.1,h.1.1.1.2,h.1.1.2,h.1.2,h.2⟩
theorem II {l:List UInt8} (h:DJ l=true):l≠[]∧l.length≤12∧∀j,j<l.length→QQ (Ab l j)=true:=by
 simp only [DJ,Bool.and_eq_true,decide_eq_true_eq] at h;exact ⟨h.1.1.1,h.1.1.2,h.2⟩
def Ej (r:Co):List UInt8:=Lib.itoa (r.row+1)
def Es (r:Co):List UInt8:=Dj r.ar++Ej r
def Hf (r:Co):List UInt8:=EP r.col++Es r
def Er (r:Co):List UInt8:=Dj r.ac++Hf r
theorem QJ (r:Co):B9 r=(if r.sheet=[] then [] else r.sheet++[33])++Er r:=by
 simp [B9,Er,Hf,Es,Ej]
theorem Kv (p:Int→Bool):∀(a b:List UInt8),(∀c∈a,p (c.toNat:Int)=true)→(b=[]∨p (Ab b 0)=false)→Ah p (a++b)=a∧He p (a++b)=b
 | [],b,_,hb=>by
  cases b with
  | nil=>simp [Ah,He]
  | cons c r=>
   have hc:p (c.toNat:Int)=false:=by
    rcases hb with hb | hb
    ·cases hb
    ·exact hb
   simp [Ah,He,hc]
 | c::a,b,ha,hb=>by
  have hc:=ha c (by simp);obtain ⟨h1,h2⟩:=Kv p a b (λd hd=>ha d (by simp [hd])) hb;simp only [Ah,He] at h1 h2 ⊢;simp [hc,h1,h2]
theorem B3 {a b:List UInt8} {j:Nat} (h:j<a.length):Ab (a++b) j=Ab a j:=by
 unfold Ab;rw [List.getD_eq_getElem?_getD,List.getD_eq_getElem?_getD,List.getElem?_append_left h]
theorem D6 {l:List UInt8} {j:Nat} (h:j<l.length):∃c∈l,Ab l j=(c.toNat:Int):=⟨l[j],List.getElem_mem h,Bz h⟩
theorem RY (z:Int) (h:AX z=true):z≠33∧z≠36∧Al z=false:=by
 simp [AX] at h;refine ⟨by omega,by omega,?_⟩;simp [Al];omega
theorem Sb (z:Int) (h:Al z=true):z≠33∧z≠36∧AX z=false:=by
 simp [Al] at h;refine ⟨by omega,by omega,?_⟩;simp [AX];omega
theorem WL (z:Int) (h:QQ z=true):z≠33∧z≠36:=by
 simp [QQ,ER,AX,Al] at h;omega
theorem Xt {r:Co} (h:AP r=true):∀c∈Er r,(c.toNat:Int)≠33:=by
 obtain ⟨_,c0,c1,r0,r1⟩:=Ds h;obtain ⟨hc,_,_⟩:=LV c0 c1;obtain ⟨hd,_,_,_⟩:=FO (z:=r.row+1) (by omega) (by omega);intro c hm;have mk:∀b,c∈Dj b→(c.toNat:Int)≠33:=λb hb=>by
  cases b
  ·simp [Dj] at hb
  ·simp [Dj] at hb;subst hb;decide
 simp only [Er,Hf,Es,Ej,List.mem_append] at hm;rcases hm with hm | hm | hm | hm
 ·exact mk _ hm
 ·exact (RY _ (hc c hm)).1
 ·exact mk _ hm
 ·exact (Sb _ (hd c hm)).1
theorem S8 {r:Co} (h:AP r=true) :
  CD (B9 r)=r.sheet∧Cy (B9 r)=Er r∧Lib.hasPrefix (Er r) [36]=r.ac∧BU (B9 r)=Hf r∧Ah AX (Hf r)=EP r.col∧Db (B9 r)=Es r∧
  Lib.hasPrefix (Es r) [36]=r.ar∧Cg (B9 r)=Ej r∧Ah Al (Ej r)=Ej r:=by
 obtain ⟨hs,c0,c1,r0,r1⟩:=Ds h;obtain ⟨hc,a2,_⟩:=LV c0 c1;obtain ⟨hd,a3,_,_⟩:=FO (z:=r.row+1) (by omega) (by omega);have a4:=Xt h;have e0:CD (B9 r)=r.sheet∧Cy (B9 r)=Er r:=by
  rw [QJ];by_cases a1:r.sheet=[]
  ·rw [if_pos a1,List.nil_append];have a0:=Py (s:=Er r) (λj hj=>by
    obtain ⟨c,hm,e⟩:=D6 hj;rw [e];exact a4 c hm)
   simp [CD,Cy,a0,a1]
  ·rw [if_neg a1];have hn:DJ r.sheet=true:=hs.resolve_left a1;obtain ⟨_,_,a5⟩:=II hn;have a0:=JW (s:=r.sheet++[33]++Er r) (k:=r.sheet.length) (by simp)
    (by
     refine (Jj (c:=33) (by simp)).2 ?_;simp)
    (λj hj=>by
     rw [List.append_assoc,B3 hj];exact (WL _ (a5 j hj)).1)
   have t1:(r.sheet++[33]++Er r).take r.sheet.length=r.sheet:=by rw [List.append_assoc,List.take_left]
   have t2:(r.sheet++[33]++Er r).drop (r.sheet.length+1)=Er r:=by
    have:(r.sheet++[33]).length=r.sheet.length+1:=by simp
    rw [←this,List.drop_left]
   rw [t1,t2] at a0;unfold CD Cy;rw [a0];exact ⟨rfl,rfl⟩
 have bcol:Ab (Hf r) 0≠36:=by
  obtain ⟨c,hm,e⟩:=D6 a2;rw [Hf,B3 a2,e];exact (RY _ (hc c hm)).2.1
 have bdig:Ab (Ej r) 0≠36∧AX (Ab (Ej r) 0)=false:=by
  obtain ⟨c,hm,e⟩:=D6 a3;rw [Ej,e];exact (Sb _ (hd c hm)).2
 have p0:Lib.hasPrefix (Er r) [36]=r.ac∧Lib.trimPrefix (Er r) [36]=Hf r:=by
  rw [J9,HO]
  cases ha:r.ac with
  | true=>
   have e:Er r=36::Hf r:=by simp [Er,Dj,ha]
   have b:Ab (36::Hf r) 0=36:=rfl
   rw [e];simp [b]
  | false=>
   have e:Er r=Hf r:=by simp [Er,Dj,ha]
   rw [e];simp [bcol]
 have p2:Lib.hasPrefix (Es r) [36]=r.ar∧Lib.trimPrefix (Es r) [36]=Ej r:=by
  rw [J9,HO]
  cases ha:r.ar with
  | true=>
   have e:Es r=36::Ej r:=by simp [Es,Dj,ha]
   have b:Ab (36::Ej r) 0=36:=rfl
   rw [e];simp [b]
  | false=>
   have e:Es r=Ej r:=by simp [Es,Dj,ha]
   rw [e];simp [bdig.1]
 have a6:AX (Ab (Es r) 0)=false:=by
  cases ha:r.ar with
  | true=>
   have e:Es r=36::Ej r:=by simp [Es,Dj,ha]
   rw [e];rfl
  | false=>
   have e:Es r=Ej r:=by simp [Es,Dj,ha]
   rw [e];exact bdig.2
 have s1:=Kv AX (EP r.col) (Es r) hc (Or.inr a6);have s3:=Kv Al (Ej r) [] hd (Or.inl rfl);rw [List.append_nil] at s3;have k1:BU (B9 r)=Hf r:=by rw [BU,e0.2,p0.2]
 have k2:Db (B9 r)=Es r:=by rw [Db,k1];exact s1.2
 exact ⟨e0.1,e0.2,p0.1,k1,s1.1,k2,p2.1,by rw [Cg,k2,p2.2],s3.1⟩
theorem Nh {r:Co} (h:AP r=true):B9 r≠[]:=by
 obtain ⟨_,_,_,r0,r1⟩:=Ds h;obtain ⟨_,a0,_,_⟩:=FO (z:=r.row+1) (by omega) (by omega);intro he;have:=congrArg List.length he;simp [B9] at this;have h2:=this.2.2.2.2;rw [h2] at a0;simp at a0
theorem Od {r:Co} (h:AP r=true):AZ (B9 r)=true∧Di (B9 r)=r:=by
 obtain ⟨q1,q2,q3,q4,q5,q6,q7,q8,q9⟩:=S8 h;obtain ⟨_,c0,c1,r0,r1⟩:=Ds h;obtain ⟨_,_,a0⟩:=LV c0 c1;obtain ⟨_,_,_,a2⟩:=FO (z:=r.row+1) (by omega) (by omega);have a1:MU (B9 r)=some (r.row+1):=by
  unfold MU;rw [q8,q9,Ej,a2]
 have hv:Di (B9 r)=r:=by
  unfold Di;rw [q1,q4,q5,a0,a1,q2,q3,q6,q7];have:IntKind.i64.wrap ((some (r.row+1)).getD 0 - 1)=r.row:=by
   rw [Option.getD_some,show r.row+1 - 1=r.row by omega];exact EN (by omega) (by omega)
  rw [this];rfl
 refine ⟨?_,hv⟩;unfold AZ;rw [hv,q4,q5,a0,a1,Cd,if_pos h];simp [Nh h]
theorem S9 {s:List UInt8} (h:AZ s=true):AP (Di s)=true∧B9 (Di s)=s:=by
 simp only [AZ,Bool.and_eq_true,decide_eq_true_eq,Bool.not_eq_true',decide_eq_false_iff_not] at h;obtain ⟨⟨_,h1⟩,h2⟩:=h;unfold Cd at h1
 split at h1
 ·rename_i hm;exact ⟨hm,h1⟩
 ·exact absurd h1.symm h2
theorem ON {s:List UInt8} (h:∀r,AP r=true→B9 r≠s):AZ s=false:=by
 cases hk:AZ s
 ·rfl
 ·obtain ⟨a,b⟩:=S9 hk;exact absurd b (h _ a)
theorem CS (c:Int) (w:World):AA Tryz.prog 193 [.int .u8 c] w (λv w'=>v=.bool (AX c)∧Ae w w'):=by
 refine AL Tryz.func193 Tryz.ntmps193 ?_;refine Sa ?_;refine B6 (λh1=>?_) λh1=>?_
 all_goals
  refine Sa ?_;refine QW.body1 Tryz.results193 rfl ⟨?_,Chg.refl _ _⟩;simp [AX,h1]
theorem E2 (c:Int) (w:World):AA Tryz.prog 55 [.int .u8 c] w (λv w'=>v=.bool (Al c)∧Ae w w'):=by
 refine AL Tryz.func55 Tryz.ntmps55 ?_;refine Sa ?_;refine B6 (λh1=>?_) λh1=>?_
 all_goals
  refine Sa ?_;refine QW.body1 Tryz.results55 rfl ⟨?_,Chg.refl _ _⟩;simp [Al,h1]
theorem HG (c:Int) (w:World):AA Tryz.prog 54 [.int .u8 c] w (λv w'=>v=.bool (ER c)∧Ae w w'):=by
 refine AL Tryz.func54 Tryz.ntmps54 ?_;refine Sa ?_;refine B6 (λh1=>?_) λh1=>?_
 ·refine Sa ?_;refine B6 (λh2=>?_) λh2=>?_
  ·refine Sa ?_;refine QW.body1 Tryz.results54 rfl ⟨?_,Chg.refl _ _⟩;simp [ER,AX,h1,h2]
  ·refine Sa ?_;refine B6 (λh3=>?_) λh3=>?_
   all_goals
    refine Sa ?_;refine QW.body1 Tryz.results54 rfl ⟨?_,Chg.refl _ _⟩;simp [ER,AX,h1,h2,h3]
 ·refine Sa ?_;refine B6 (λh3=>?_) λh3=>?_
  all_goals
   refine Sa ?_;refine QW.body1 Tryz.results54 rfl ⟨?_,Chg.refl _ _⟩;simp [ER,AX,h1,h3]
theorem Qw (n:Int) (h0:-9223372036854775808≤n) (h1:n≤9223372036854775807) (w:World):AA Tryz.prog 74 [.int .i64 n] w (λv w'=>v=Aj (EP n)∧Ae w w'):=by
 refine AL Tryz.func74 Tryz.ntmps74 ?_;refine Sa ?_;refine B6 (λh2=>?_) λh2=>?_
 ·have h2:n<0:=by simpa using h2
  refine Sa ?_;refine QW.body1 Tryz.results74 rfl ⟨?_,Chg.refl _ _⟩;rw [EP,if_pos (by omega)]
 have h2:0≤n:=by simpa using h2
 refine Sa ?_;refine Am (λh3=>?_) λh3=>?_
 ·have h3:701<n:=by simpa using h3
  refine Sa ?_;refine QW.body1 Tryz.results74 rfl ⟨?_,Chg.refl _ _⟩;rw [EP,if_pos (by omega)]
 have h3:n≤701:=by simpa using h3
 refine Sa ?_;refine Am (λh4=>?_) λh4=>?_
 ·have h4:n<26:=by simpa using h4
  refine Sa ?_;refine Cl λb w1 hb hx hB=>?_;replace hB:Blk w1 b [.int .u8 (65+n)] 5:=hB;refine Sa ?_;refine QW.body1 Tryz.results74 rfl ⟨?_,hx⟩;rw [EP,if_neg (by omega),if_pos h4]
 ·have h4:26≤n:=by simpa using h4
  refine Sa ?_;refine Cl λb w1 hb hx hB=>?_;replace hB:Blk w1 b [.int .u8 (65+n / 26 - 1),.int .u8 (65+n % 26)] 5:=hB;refine Sa ?_;refine QW.body1 Tryz.results74 rfl ⟨?_,hx⟩;rw [EP,if_neg (by omega),if_neg (by omega)]
theorem OM (s:List UInt8) (hs:s.length≤1000000) (w:World):AA Tryz.prog 194 [Aj s] w (λv w'=>v=Cz s∧Ae w w'):=by
 match s,hs with
 | [],_=>
  refine AL Tryz.func194 Tryz.ntmps194 ?_;refine Sa ?_
  refine QW.body2 Tryz.results194 rfl rfl ⟨rfl,Chg.refl _ _⟩
 | a::b::c::l,hs=>
  simp at hs;refine AL Tryz.func194 Tryz.ntmps194 ?_;refine Sa ?_;refine B6 (λh=>?_) λh=>?_
  ·refine Sa ?_;refine QW.body2 Tryz.results194 rfl rfl ⟨rfl,Chg.refl _ _⟩
  ·simp at h;omega
 | [a],_=>
  refine AL Tryz.func194 Tryz.ntmps194 ?_;refine Sa ?_;refine Ap rfl rfl (CS _ _) ?_;rintro v w1 ⟨rfl,hx⟩;refine Sa ?_;refine B6 (λh1=>?_) λh1=>?_
  ·refine Sa ?_;refine QW.body2 Tryz.results194 rfl rfl ⟨?_,hx⟩;have h1:AX (Ab [a] 0)=false:=by simpa using h1
   simp [Cz,AO,h1]
  have h1:AX (Ab [a] 0)=true:=by simpa using h1
  refine Sa ?_;refine Ap rfl rfl (CS _ _) ?_;rintro v w2 ⟨rfl,a0⟩;refine Sa ?_;refine Am (λh2=>?_) λh2=>?_
  ·have h2:AX (Ab [a] 0)=false:=by simpa using h2
   rw [h1] at h2;cases h2
  have hb:=CA [a] 0;have a1:65≤Ab [a] 0∧Ab [a] 0≤90:=by simpa [AX] using h1
  have e0:Ab [a] (0:Int).toNat=Ab [a] 0:=rfl;refine Sa ?_;refine QW.body2 Tryz.results194 rfl rfl ⟨?_,hx.trans a0⟩
  simp [Cz,AO,h1]
 | [a,b],_=>
  refine AL Tryz.func194 Tryz.ntmps194 ?_;refine Sa ?_;refine Ap rfl rfl (CS _ _) ?_;rintro v w1 ⟨rfl,hx⟩;refine Sa ?_;refine B6 (λh1=>?_) λh1=>?_
  ·refine Sa ?_;refine QW.body2 Tryz.results194 rfl rfl ⟨?_,hx⟩;have h1:AX (Ab [a,b] 0)=false:=by simpa using h1
   simp [Cz,AO,h1]
  have h1:AX (Ab [a,b] 0)=true:=by simpa using h1
  refine Sa ?_;refine Ap rfl rfl (CS _ _) ?_;rintro v w2 ⟨rfl,a0⟩;refine Sa ?_;refine Am (λh2=>?_) λh2=>?_
  ·refine Sa ?_;refine QW.body2 Tryz.results194 rfl rfl ⟨?_,hx.trans a0⟩;have h2:AX (Ab [a,b] 1)=false:=by simpa using h2
   simp [Cz,AO,h1,h2]
  have h2:AX (Ab [a,b] 1)=true:=by simpa using h2
  have hb:=CA [a,b] 0;have a1:65≤Ab [a,b] 0∧Ab [a,b] 0≤90:=by simpa [AX] using h1
  have e0:Ab [a,b] (0:Int).toNat=Ab [a,b] 0:=rfl;have hc:=CA [a,b] 1;have a3:65≤Ab [a,b] 1∧Ab [a,b] 1≤90:=by simpa [AX] using h2
  have e1:Ab [a,b] (1:Int).toNat=Ab [a,b] 1:=rfl;refine Sa ?_;refine Hk ?_;refine Sq ?_;refine QL.nil λw3 a2=>?_;refine Sa ?_;refine QW.body2 Tryz.results194 rfl rfl ⟨?_,(hx.trans a0).trans a2⟩;simp [Cz,AO,h1,h2];omega
theorem TT (s:List UInt8) (hs:s.length≤9223372036854775807) (w:World):AA Tryz.prog 40 [Aj s] w (λv w'=>v=.bool (DJ s)∧Ae w w'):=by
 refine AL Tryz.func40 Tryz.ntmps40 ?_;refine Sa ?_;refine CW.loop (ι:=Nat) (λk w'=>k≤s.length∧Ae w w'∧(0<k→ER (Ab s 0)=true)∧∀j,j<k→QQ (Ab s j)=true) (λk=>[(0,Aj s),(3,.int .i64 k)]) (λk=>s.length - k) 0 ⟨by omega,Chg.refl _ _,by omega,by omega⟩ Fv ?_;rintro k w1 ⟨hk,hx,hf,a0⟩;refine Sa ?_;refine Am (λh1=>?_) λh1=>?_
 ·have h1:k<s.length:=by simpa using h1
  refine Sa ?_;refine Ap rfl rfl (HG _ _) ?_;rintro v w2 ⟨rfl,a2⟩;replace hx:=hx.trans a2;refine Sa ?_;refine B6 (λh2=>?_) λh2=>?_
  ·have h2:ER (Ab s k)=false:=by simpa using h2
   refine Sa ?_;refine B6 (λh3=>?_) λh3=>?_
   ·have h3:0<k:=by simpa using h3
    refine Sa ?_;refine Ap rfl rfl (E2 _ _) ?_;rintro v w3 ⟨rfl,a3⟩;replace hx:=hx.trans a3;refine Sa ?_;refine Am (λh4=>?_) λh4=>?_
    ·have h4:Al (Ab s k)=false:=by simpa using h4
     refine Sa ?_;refine QW.body1 Tryz.results40 rfl ⟨?_,hx⟩;rw [PU h1 (by simp [QQ,h2,h4])]
    ·have h4:Al (Ab s k)=true:=by simpa using h4
     refine Sa ?_;refine QW.again (k+1) ⟨by omega,hx,λ_=>hf h3,?_⟩ Fv (by omega);intro j hj;by_cases a1:j=k
     ·subst a1;simp [QQ,h4]
     ·exact a0 j (by omega)
   ·have h3:k=0:=by simpa using h3
    subst h3;refine Sa ?_;refine QW.body1 Tryz.results40 rfl ⟨?_,hx⟩;rw [KA h2]
  ·have h2:ER (Ab s k)=true:=by simpa using h2
   refine Sa ?_;refine QW.again (k+1) ⟨by omega,hx,λ_=>?_,?_⟩ Fv (by omega)
   ·by_cases a4:k=0
    ·subst a4;exact h2
    ·exact hf (by omega)
   ·intro j hj;by_cases a1:j=k
    ·subst a1;simp [QQ,h2]
    ·exact a0 j (by omega)
 ·have h1:k=s.length:=by simp at h1;omega
  subst h1;refine Sa ?_;refine B6 (λh2=>?_) λh2=>?_
  ·have h2:1≤s.length:=by simp at h2;omega
   have a5:s≠[]:=by intro h;rw [h] at h2;simp at h2
   refine Sa ?_;refine QW.body1 Tryz.results40 rfl ⟨?_,hx⟩;by_cases h3:s.length≤12
   ·rw [M5 a5 h3 (hf (by omega)) a0];simp;omega
   ·rw [M4 (by omega)];simp;omega
  ·have h2:s=[]:=by
    apply List.eq_nil_of_length_eq_zero;simp at h2;omega
   subst h2;refine Sa ?_;refine QW.body1 Tryz.results40 rfl ⟨rfl,hx⟩
theorem I0 {u:Nat} (h:10≤u):Lib.decDigits u=Lib.decDigits (u / 10)++[ch (48+(u:Int) % 10)]:=by
 rw [Lib.decDigits,dif_neg (by omega)]
 congr 2
theorem Hb {u:Nat} (h:u<10):Lib.decDigits u=[ch (48+(u:Int))]:=by
 rw [Lib.decDigits,dif_pos h];rfl
theorem GA (k:Int) (h0:0≤k) (h1:k≤9223372036854775807) (w:World):AA Tryz.prog 16 [.int .i64 k] w (λv w'=>v=Aj (Lib.itoa k)∧Ae w w'):=by
 obtain ⟨m,rfl⟩:=Int.eq_ofNat_of_zero_le h0;have a2:Lib.itoa (m:Int)=Lib.decDigits m:=by unfold Lib.itoa;rw [if_neg (by omega)];rfl
 have a0:=Lib.itoa_length_le (m:Int) (by omega) h1;rw [a2] at a0;rw [a2];refine AL Tryz.func16 Tryz.ntmps16 ?_;refine Sa ?_;refine CW.loop (ι:=Nat×List UInt8) (λi w'=>i.1≤m∧Ae w w'∧Lib.decDigits m=Lib.decDigits i.1++i.2) (λi=>[(0,.int .i64 (m:Int)),(3,.int .u64 (i.1:Int)),(4,Aj i.2)]) (λi=>i.1) (m,[]) ⟨by simp,Chg.refl _ _,by simp⟩ Bh ?_;rintro ⟨u,acc⟩ w1 ⟨hu,hx,hd⟩;simp only at hu hd;have a3:acc.length≤21:=by
  have:=congrArg List.length hd;rw [List.length_append] at this;omega
 refine Sa ?_;refine Am (λh2=>?_) λh2=>?_
 ·have h2:10≤u:=by simp at h2;omega
  refine Sa ?_;refine Cl λb w2 hb a1 hB=>?_;replace hB:Blk w2 b [.int .u8 (48+(u:Int) % 10)] 5:=hB;replace hx:=hx.trans a1;refine Sa ?_;refine QW.again (u / 10,[ch (48+(u:Int) % 10)]++acc) ⟨?_,hx,?_⟩ Bh ?_
  ·simp only;omega
  ·simp only;rw [hd,I0 h2];simp
  ·simp only;omega
 ·have h2:u<10:=by simp at h2;omega
  refine Sa ?_;refine Cl λb w2 hb a1 hB=>?_;replace hB:Blk w2 b [.int .u8 (48+(u:Int))] 5:=hB;replace hx:=hx.trans a1;refine Sa ?_;refine QW.body1 Tryz.results16 rfl ⟨?_,hx⟩;rw [hd,Hb h2]
theorem EH (x:Co) (hs:x.sheet.length≤9223372036854775807) (w:World):AA Tryz.prog 146 [IQ x] w (λv w'=>v=.bool (AP x)∧Ae w w'):=by
 obtain ⟨sh,c,r,ac,ar⟩:=x;simp only [IQ];refine AL Tryz.func146 Tryz.ntmps146 ?_;refine Sa ?_;refine CZ λb w1 hb hx hB=>?_;refine Sa ?_;refine B6 (λh1=>?_) λh1=>?_
 ·refine Sa ?_;refine B6 (λh2=>?_) λh2=>?_
  ·refine Sa ?_;refine B6 (λh3=>?_) λh3=>?_
   ·refine Sa ?_;refine B6 (λh4=>?_) λh4=>?_
    ·refine Sa ?_;refine QW.body1 Tryz.results146 rfl ⟨?_,hx⟩;simp [AP, *]
    ·refine Sa ?_;refine QW.body1 Tryz.results146 rfl ⟨?_,hx⟩;simp [AP, *]
   ·refine Sa ?_;refine QW.body1 Tryz.results146 rfl ⟨?_,hx⟩;simp [AP, *]
  ·refine Sa ?_;refine QW.body1 Tryz.results146 rfl ⟨?_,hx⟩;simp [AP, *]
 ·refine Sa ?_;refine Ap rfl rfl (TT _ hs _) ?_;rintro v w2 ⟨rfl,a0⟩;replace hB:=hB.ext a0;replace hx:=hx.trans a0;refine Sa ?_;refine B6 (λh0=>?_) λh0=>?_
  ·refine Sa ?_;refine B6 (λh2=>?_) λh2=>?_
   ·refine Sa ?_;refine B6 (λh3=>?_) λh3=>?_
    ·refine Sa ?_;refine B6 (λh4=>?_) λh4=>?_
     ·refine Sa ?_;refine QW.body1 Tryz.results146 rfl ⟨?_,hx⟩;simp [AP, *]
     ·refine Sa ?_;refine QW.body1 Tryz.results146 rfl ⟨?_,hx⟩;simp [AP, *]
    ·refine Sa ?_;refine QW.body1 Tryz.results146 rfl ⟨?_,hx⟩;simp [AP, *]
   ·refine Sa ?_;refine QW.body1 Tryz.results146 rfl ⟨?_,hx⟩;simp [AP, *]
  ·refine Sa ?_;refine QW.body1 Tryz.results146 rfl ⟨?_,hx⟩;simp [AP, *]
theorem FK (x:Co) (hs:x.sheet.length≤1000) (w:World):AA Tryz.prog 118 [IQ x] w (λv w'=>v=Aj (Cd x)∧Ae w w'):=by
 obtain ⟨sh,c,r,ac,ar⟩:=x;simp only at hs;simp only [IQ];refine AL Tryz.func118 Tryz.ntmps118 ?_;refine Sa ?_;refine CZ λb w1 hb hx hB=>?_;refine Sa ?_;refine Ap rfl rfl (EH ⟨sh,c,r,ac,ar⟩ (by simp only;omega) w1) ?_;rintro v w2 ⟨rfl,a2⟩;replace hB:=hB.ext a2;replace hx:=hx.trans a2;refine Sa ?_;refine Am (λh1=>?_) λh1=>?_
 ·refine Sa ?_;refine QW.body1 Tryz.results118 rfl ⟨?_,hx⟩;have h1:AP ⟨sh,c,r,ac,ar⟩=false:=by simpa using h1
  simp [Cd,h1]
 have h1:AP ⟨sh,c,r,ac,ar⟩=true:=by simpa using h1
 have hm:0≤c∧c≤701∧0≤r∧r≤998:=by
  simp only [AP,Bool.and_eq_true,decide_eq_true_eq] at h1;exact ⟨h1.1.1.1.2,h1.1.1.2,h1.1.2,h1.2⟩
 have a3:=Hu c;have a4:=Lib.itoa_length_le (r+1) (by omega) (by omega);rw [Cd,if_pos h1];clear h1
 match sh,hs with
 | [],_=>
  cases ac<;>cases ar
  all_goals
   refine Sa ?_;refine Ap rfl rfl (Qw c (by omega) (by omega) w2) ?_;rintro v w3 ⟨rfl,a0⟩;replace hB:=hB.ext a0;replace hx:=hx.trans a0;refine Sa ?_;refine Ap rfl rfl (GA (r+1) (by omega) (by omega) w3) ?_;rintro v w4 ⟨rfl,a1⟩;replace hx:=hx.trans a1;refine Sa ?_;refine QW.body1 Tryz.results118 rfl ⟨?_,hx⟩
   simp [B9,Dj]
 | a::l,hs=>
  simp at hs;cases ac<;>cases ar
  all_goals
   refine Sa ?_;refine Ap rfl rfl (Qw c (by omega) (by omega) w2) ?_;rintro v w3 ⟨rfl,a0⟩;replace hB:=hB.ext a0;replace hx:=hx.trans a0;refine Sa ?_;refine Ap rfl rfl (GA (r+1) (by omega) (by omega) w3) ?_;rintro v w4 ⟨rfl,a1⟩;replace hx:=hx.trans a1;refine Sa ?_;refine QW.body1 Tryz.results118 rfl ⟨?_,hx⟩;simp [B9,Dj]
def Ay (acc:Int) (l:List UInt8):Int:=l.foldl (λa c=>10*a+((c.toNat:Int) - 48)) acc
theorem Fm (acc:Int) (l:List UInt8) (c:UInt8):Ay acc (l++[c])=10*Ay acc l+((c.toNat:Int) - 48):=by simp [Ay]
def WA (n:Nat):Bool:=decide (Ay 0 (d3 n)=(n:Int))
theorem U0:∀n:Fin 1000,WA n.val=true:=by decide +kernel
theorem Vg {z:Int} (h0:0≤z) (h1:z<1000):Ay 0 (Lib.itoa z)=z:=by
 have:=U0 ⟨z.toNat,by omega⟩;rw [Sm h0 h1];simp only [WA,decide_eq_true_eq] at this;rw [this];omega
theorem IW {l:List UInt8} {k:Nat} (h:k<l.length):l.take (k+1)=l.take k++[l[k]]:=by
 rw [List.take_succ_eq_append_getElem h]
theorem Fi (l:List UInt8) (a k:Nat):Ab (l.drop a) k=Ab l (a+k):=by
 unfold Ab;rw [List.getD_eq_getElem?_getD,List.getD_eq_getElem?_getD,List.getElem?_drop]
theorem KC {s:List UInt8} (h:AZ s=false):EV s=.tuple #[IQ HE,.bool false]:=by rw [EV,h];rfl
def I1 (s:List UInt8):Co:=⟨CD s,(AO (Ah AX (BU s))).getD 0,Ay 0 ((Cg s).take 4) - 1,Lib.hasPrefix (Cy s) [36],Lib.hasPrefix (Db s) [36]⟩
theorem VK {s:List UInt8} {r:Co} (h:AP r=true) (e:B9 r=s):I1 s=r∧(AO (Ah AX (BU s))).isSome=true:=by
 obtain ⟨q1,q2,q3,q4,q5,q6,q7,q8,_⟩:=S8 h;obtain ⟨_,c0,c1,r0,r1⟩:=Ds h;obtain ⟨_,_,a0⟩:=LV c0 c1;obtain ⟨_,_,hl,_⟩:=FO (z:=r.row+1) (by omega) (by omega);rw [e] at q1 q2 q4 q6 q8;unfold I1;rw [q1,q4,q5,a0,q8,q2,q3,q6,q7,List.take_of_length_le (by rw [Ej];omega),Ej,Vg (by omega) (by omega)];refine ⟨?_,rfl⟩;rw [show r.row+1 - 1=r.row by omega];rfl
theorem VR {s:List UInt8} (hl:0<s.length) (h:Ab s 0=33):AZ s=false:=by
 refine ON λr hr e=>?_;have hc:=JW (s:=s) (k:=0) hl h (λj hj=>by omega);have a0:CD s=[]:=by unfold CD;rw [hc];rfl
 have a1:r.sheet=[]:=by
  have:=(S8 hr).1;rw [e,a0] at this;exact this.symm
 rw [QJ,if_pos a1,List.nil_append] at e;subst e;obtain ⟨c,hm,e⟩:=D6 hl;exact Xt hr c hm (by rw [←e];exact h)
theorem T6 {s:List UInt8} {j:Nat} (hl:j<(Cg s).length) (h:Al (Ab (Cg s) j)=false):AZ s=false:=by
 refine ON λr hr e=>?_;obtain ⟨_,_,_,_,_,_,_,q8,_⟩:=S8 hr;obtain ⟨_,c0,c1,r0,r1⟩:=Ds hr;obtain ⟨hd,_,_,_⟩:=FO (z:=r.row+1) (by omega) (by omega);rw [e] at q8;obtain ⟨c,hm,e2⟩:=D6 hl;rw [q8] at hm;rw [e2,hd c hm] at h;cases h
theorem Gw (l:List UInt8) (h:∀j,j<l.length→Al (Ab l j)=true):0≤Ay 0 l∧Ay 0 l<10 ^ l.length:=by
 have key:∀(n:Nat) (l:List UInt8),l.length=n→(∀j,j<l.length→Al (Ab l j)=true)→0≤Ay 0 l∧Ay 0 l<10 ^ n:=by
  intro n
  induction n with
  | zero=>
   intro l hl _;have:l=[]:=List.eq_nil_of_length_eq_zero hl
   subst this;simp [Ay]
  | succ n ih=>
   intro l hl h;have a0:l≠[]:=by intro h0;rw [h0] at hl;simp at hl
   have e:l=l.dropLast++[l.getLast a0]:=(List.dropLast_concat_getLast a0).symm;have a1:l.dropLast.length=n:=by simp;omega
   have h1:=ih l.dropLast a1 (λj hj=>by
    have:=h j (by omega);rw [e,B3 hj] at this;exact this)
   have h2:Al (((l.getLast a0).toNat:Nat):Int)=true:=by
    have:=h n (by omega);have e3:Ab l n=((l.getLast a0).toNat:Int):=by
     rw [Bz (by omega)]
     congr 2
     rw [List.getLast_eq_getElem]
     congr 1
     omega
    rw [e3] at this;exact this
   have h3:Ay 0 l=10*Ay 0 l.dropLast+(((l.getLast a0).toNat:Int) - 48):=by
    conv=>lhs;rw [e]
    exact Fm _ _ _
   simp only [Al,Bool.and_eq_true,decide_eq_true_eq] at h2;rw [h3,Int.pow_succ];constructor<;>omega
 exact key l.length l rfl h
theorem Hp (s:List UInt8) (hs:s.length≤1000) (w:World):AA Tryz.prog 163 [Aj s] w (λv w'=>v=EV s∧Ae w w'):=by
 refine AL Tryz.func163 Tryz.ntmps163 ?_;refine Sa ?_;refine BP λR w1 b4 hx hR=>?_;refine Sa ?_;refine BP λC w2 b5 ae hC=>?_;have b6:R<C:=by have:=hR.lt;omega
 replace hR:Blk w2 R (AQ HE) 113:=hR.ext ae;replace hC:Blk w2 C [Aj [],.int .i64 0,.int .i64 0,.bool false,.bool false] 113:=hC;replace hx:=hx.trans ae;refine Sl ?_;apply LW.nil;apply QW.then_n;apply CW.seq;apply CW.region;refine Sl ?_;apply LW.nil;apply QW.then_n;apply CW.seq;refine CW.cut (ι:=Nat) (λa w'=>Ae w w'∧Blk w' R (AQ HE) 113∧Blk w' C [Aj (CD s),.int .i64 0,.int .i64 0,.bool false,.bool false] 113∧a≤s.length∧s.drop a=Cy s)
  (λa=>[(0,Aj s),(2,.pointer (some ⟨R,0,none⟩)),(3,.bool false),(4,.pointer (some ⟨C,0,none⟩)),(5,.int .i64 a)]) ?_ ?_
 ·refine Sa ?_;refine CW.loop (ι:=Nat) (λk w'=>k≤s.length∧Ae w w'∧Blk w' R (AQ HE) 113∧Blk w' C [Aj [],.int .i64 0,.int .i64 0,.bool false,.bool false] 113∧∀j,j<k→Ab s j≠33)
   (λk=>[(0,Aj s),(2,.pointer (some ⟨R,0,none⟩)),(3,.bool false),(4,.pointer (some ⟨C,0,none⟩)),(5,.int .i64 0),(6,.int .i64 k)]) (λk=>s.length - k) 0 ⟨by omega,hx,hR,hC,by omega⟩ BQ ?_
  clear hx hR hC ae;rintro k w3 ⟨hk,hx,hR,hC,a0⟩;refine Sa ?_;refine Am (λh1=>?_) λh1=>?_
  ·have h1:k<s.length:=by simpa using h1
   refine Sa ?_;refine Am (λh2=>?_) λh2=>?_
   ·have h2:Ab s k=33:=by simpa using h2
    have aa:=JW h1 h2 a0;refine Sa ?_;refine LW.slice_str (i:=0) (j:=k) rfl rfl rfl rfl ⟨_,_,rfl,rfl⟩ (by omega) hk rfl ?_;refine Sa ?_;refine BS λw4 ab ah=>?_;replace hR:=hR.chg ab (by simp;omega);replace hx:=hx.step ab (by simp;omega);refine Sa ?_;refine Am (λh3=>?_) λh3=>?_
    ·have h3:k=0:=by simpa using h3
     subst h3;refine Sa ?_;refine AM λw5 av aw=>?_;refine Sa ?_;refine QW.body_ct Tryz.results163 rfl aw rfl rfl rfl rfl ⟨?_,hx.step av (by simp;omega)⟩;rw [KC (VR h1 h2)];rfl
    ·refine Sa ?_;refine QW.head (k+1) ⟨hx,hR,?_,by omega,?_⟩ C2
     ·have e:CD s=cut s 0 k:=by unfold CD;rw [aa,LX];rfl
      rw [e];exact ah
     ·unfold Cy;rw [aa];rfl
   ·have h2:Ab s k≠33:=by simpa using h2
    refine Sa ?_;refine QW.again (k+1) ⟨by omega,hx,hR,hC,?_⟩ BQ (by omega);intro j hj;by_cases ac:j=k
    ·subst ac;exact h2
    ·exact a0 j (by omega)
  ·have h1:k=s.length:=by simp at h1;omega
   subst h1;have aa:=Py a0;refine Sa ?_;refine QW.head 0 ⟨hx,hR,?_,by omega,?_⟩ C2
   ·have e:CD s=[]:=by unfold CD;rw [aa];rfl
    rw [e];exact hC
   ·unfold Cy;rw [aa];rfl
 clear hx hR hC ae;rintro a w3 ⟨hx,hR,hC,ha,a3⟩;have ax:(Cy s).length=s.length - a:=by rw [←a3];simp
 apply CW.seq;refine CW.cut (ι:=Nat) (λa w'=>Ae w w'∧Blk w' R (AQ HE) 113∧Blk w' C [Aj (CD s),.int .i64 0,.int .i64 0,.bool (Lib.hasPrefix (Cy s) [36]),.bool false] 113∧a≤s.length∧s.drop a=BU s)
  (λa=>[(0,Aj s),(2,.pointer (some ⟨R,0,none⟩)),(3,.bool false),(4,.pointer (some ⟨C,0,none⟩)),(5,.int .i64 a)]) ?_ ?_
 ·refine Sa ?_;refine B6 (λh1=>?_) λh1=>?_
  ·have h1:a<s.length:=by simpa using h1
   refine Sa ?_;refine Am (λh2=>?_) λh2=>?_
   ·have h2:Ab s a=36:=by simpa using h2
    have e1:0<(Cy s).length∧Ab (Cy s) 0=36:=⟨by omega,by rw [←a3,Fi];exact h2⟩;refine Sa ?_;refine BS λw4 ab ah=>?_;replace hR:=hR.chg ab (by simp;omega);replace hx:=hx.step ab (by simp;omega);refine Sa ?_;refine QW.head (a+1) ⟨hx,hR,?_,by omega,?_⟩ C2
    ·rw [J9,decide_eq_true e1];exact ah
    ·rw [BU,HO,if_pos e1,←a3,List.drop_drop]
   ·have h2:Ab s a≠36:=by simpa using h2
    have e1:¬(0<(Cy s).length∧Ab (Cy s) 0=36):=by
     rintro ⟨_,h⟩;rw [←a3,Fi] at h;exact h2 h
    refine Sa ?_;refine QW.head a ⟨hx,hR,?_,ha,?_⟩ C2
    ·rw [J9,decide_eq_false e1];exact hC
    ·rw [BU,HO,if_neg e1,a3]
  ·have h1:a=s.length:=by simp at h1;omega
   have e1:¬(0<(Cy s).length∧Ab (Cy s) 0=36):=by
    rintro ⟨h,_⟩;omega
   refine Sa ?_;refine QW.head a ⟨hx,hR,?_,ha,?_⟩ C2
   ·rw [J9,decide_eq_false e1];exact hC
   ·rw [BU,HO,if_neg e1,a3]
 clear hx hR hC ha a3 ax a;rintro a w4 ⟨hx,hR,hC,ha,a3⟩;apply CW.seq;apply CW.region;refine Sl ?_;apply LW.nil;apply QW.then_n;apply CW.seq;refine CW.cut (ι:=Nat) (λk w'=>Ae w w'∧Blk w' R (AQ HE) 113∧Blk w' C [Aj (CD s),.int .i64 0,.int .i64 0,.bool (Lib.hasPrefix (Cy s) [36]),.bool false] 113∧a≤k∧k≤s.length∧cut s a k=Ah AX (BU s)∧s.drop k=Db s)
  (λk=>[(0,Aj s),(2,.pointer (some ⟨R,0,none⟩)),(3,.bool false),(4,.pointer (some ⟨C,0,none⟩)),(5,.int .i64 a),(7,.int .i64 k)]) ?_ ?_
 ·refine Sa ?_;refine CW.loop (ι:=Nat) (λk w'=>a≤k∧k≤s.length∧Ae w w'∧Blk w' R (AQ HE) 113∧Blk w' C [Aj (CD s),.int .i64 0,.int .i64 0,.bool (Lib.hasPrefix (Cy s) [36]),.bool false] 113∧∀j,j<k - a→AX (Ab (BU s) j)=true)
   (λk=>[(0,Aj s),(2,.pointer (some ⟨R,0,none⟩)),(3,.bool false),(4,.pointer (some ⟨C,0,none⟩)),(5,.int .i64 a),(7,.int .i64 k)]) (λk=>s.length - k) a ⟨by omega,ha,hx,hR,hC,by omega⟩ BQ ?_
  clear hx hR hC;rintro k w5 ⟨ad,hk,hx,hR,hC,a0⟩;have b7:(BU s).length=s.length - a:=by rw [←a3];simp
  have an:Ab (BU s) (k - a)=Ab s k:=by
   rw [←a3,Fi];congr 1;omega
  have fin:k=s.length∨AX (Ab s k)=false→cut s a k=Ah AX (BU s)∧s.drop k=Db s:=λh=>by
   have sp:=JJ AX (BU s) (k - a) (by omega) a0 (by
    rcases h with h | h
    ·exact Or.inl (by omega)
    ·exact Or.inr (by rw [an];exact h))
   refine ⟨?_,?_⟩
   ·unfold cut;rw [a3];exact sp.1
   ·have:s.drop k=(s.drop a).drop (k - a):=by rw [List.drop_drop];congr 1;omega
    rw [this,a3];exact sp.2
  refine Sa ?_;refine B6 (λh1=>?_) λh1=>?_
  ·have h1:k<s.length:=by simpa using h1
   refine Sa ?_;refine Ap rfl rfl (CS _ _) ?_;rintro v w6 ⟨rfl,a7⟩;replace hR:=hR.ext a7;replace hC:=hC.ext a7;replace hx:=hx.trans a7;refine Sa ?_;refine Am (λh2=>?_) λh2=>?_
   ·have h2:AX (Ab s k)=true:=h2;refine Sa ?_;refine QW.again (k+1) ⟨by omega,by omega,hx,hR,hC,?_⟩ BQ (by omega);intro j hj;by_cases ac:j=k - a
    ·subst ac;rw [an];exact h2
    ·exact a0 j (by omega)
   ·have h2:AX (Ab s k)=false:=h2;refine Sa ?_;exact QW.head k ⟨hx,hR,hC,ad,hk,fin (Or.inr h2)⟩ BQ
  ·have h1:k=s.length:=by simp at h1;omega
   refine Sa ?_;exact QW.head k ⟨hx,hR,hC,ad,hk,fin (Or.inl h1)⟩ BQ
 clear hx hR hC;rintro k w5 ⟨hx,hR,hC,ad,hk,ai,a4⟩;have b8:(Ah AX (BU s)).length≤1000:=by rw [←ai];simp [cut];omega
 have b9:=I2 (Ah AX (BU s));have ay:(Db s).length=s.length - k:=by rw [←a4];simp
 apply CW.seq;apply CW.region;refine Sl ?_;refine LW.slice_str (i:=a) (j:=k) rfl rfl rfl ⟨_,_,rfl,rfl⟩ ⟨_,_,rfl,rfl⟩ ad hk rfl ?_;refine Sl ?_;rw [ai];refine Ap rfl rfl (OM _ (by omega) w5) ?_;rintro v w6 ⟨rfl,a7⟩;rw [JC];replace hR:=hR.ext a7;replace hC:=hC.ext a7;replace hx:=hx.trans a7;refine Sl ?_;apply LW.nil;apply QW.then_n;apply CW.seq;refine CW.cut (ι:=Nat) (λk w'=>Ae w w'∧Blk w' R (AQ HE) 113∧Blk w' C [Aj (CD s),.int .i64 0,.int .i64 0,.bool (Lib.hasPrefix (Cy s) [36]),.bool (Lib.hasPrefix (Db s) [36])] 113∧k≤s.length∧s.drop k=Cg s)
  (λk=>[(0,Aj s),(2,.pointer (some ⟨R,0,none⟩)),(3,.bool false),(4,.pointer (some ⟨C,0,none⟩)),(7,.int .i64 k),(8,.int .i64 ((AO (Ah AX (BU s))).getD 0)),(9,.bool (AO (Ah AX (BU s))).isSome)]) ?_ ?_
 ·refine Sa ?_;refine B6 (λh1=>?_) λh1=>?_
  ·have h1:k<s.length:=by simpa using h1
   refine Sa ?_;refine Am (λh2=>?_) λh2=>?_
   ·have h2:Ab s k=36:=by simpa using h2
    have e1:0<(Db s).length∧Ab (Db s) 0=36:=⟨by omega,by rw [←a4,Fi];exact h2⟩;refine Sa ?_;refine BS λw7 ao az=>?_;replace hR:=hR.chg ao (by simp;omega);replace hx:=hx.step ao (by simp;omega);refine Sa ?_;refine QW.head (k+1) ⟨hx,hR,?_,by omega,?_⟩ Hh
    ·rw [J9 (Db s),decide_eq_true e1];exact az
    ·rw [Cg,HO,if_pos e1,←a4,List.drop_drop]
   ·have h2:Ab s k≠36:=by simpa using h2
    have e1:¬(0<(Db s).length∧Ab (Db s) 0=36):=by
     rintro ⟨_,h⟩;rw [←a4,Fi] at h;exact h2 h
    refine Sa ?_;refine QW.head k ⟨hx,hR,?_,hk,?_⟩ Hh
    ·rw [J9 (Db s),decide_eq_false e1];exact hC
    ·rw [Cg,HO,if_neg e1,a4]
  ·have h1:k=s.length:=by simp at h1;omega
   have e1:¬(0<(Db s).length∧Ab (Db s) 0=36):=by
    rintro ⟨h,_⟩;omega
   refine Sa ?_;refine QW.head k ⟨hx,hR,?_,hk,?_⟩ Hh
   ·rw [J9 (Db s),decide_eq_false e1];exact hC
   ·rw [Cg,HO,if_neg e1,a4]
 clear hx hR hC ad hk ai a4 ay a7 k ha a3 a;rintro k w7 ⟨hx,hR,hC,hk,a4⟩;have b0:(Cg s).length=s.length - k:=by rw [←a4];simp
 apply CW.seq;apply CW.region;refine Sl ?_;apply LW.nil;apply QW.then_n;apply CW.seq;apply CW.seq;apply CW.region;refine Sl ?_;apply LW.nil;apply QW.then_n;refine CW.cut (ι:=Unit) (λ_ w'=>Ae w w'∧Blk w' R (AQ HE) 113∧Blk w' C [Aj (CD s),.int .i64 0,.int .i64 0,.bool (Lib.hasPrefix (Cy s) [36]),.bool (Lib.hasPrefix (Db s) [36])] 113∧0≤Ay 0 ((Cg s).take 4)∧Ay 0 ((Cg s).take 4)≤10000)
  (λ_=>[(0,Aj s),(2,.pointer (some ⟨R,0,none⟩)),(3,.bool false),(4,.pointer (some ⟨C,0,none⟩)),(8,.int .i64 ((AO (Ah AX (BU s))).getD 0)),(9,.bool (AO (Ah AX (BU s))).isSome),(10,.int .i64 (Ay 0 ((Cg s).take 4)))]) ?_ ?_
 ·refine Sa ?_;refine CW.loop (ι:=Nat) (λi w'=>i≤4∧k+i≤s.length∧Ae w w'∧Blk w' R (AQ HE) 113∧Blk w' C [Aj (CD s),.int .i64 0,.int .i64 0,.bool (Lib.hasPrefix (Cy s) [36]),.bool (Lib.hasPrefix (Db s) [36])] 113∧∀j,j<i→Al (Ab (Cg s) j)=true)
   (λi=>[(0,Aj s),(2,.pointer (some ⟨R,0,none⟩)),(3,.bool false),(4,.pointer (some ⟨C,0,none⟩)),(7,.int .i64 k),(8,.int .i64 ((AO (Ah AX (BU s))).getD 0)),(9,.bool (AO (Ah AX (BU s))).isSome),(10,.int .i64 (Ay 0 ((Cg s).take i))),(11,.int .i64 ((k+i:Nat):Int))]) (λi=>4 - i) 0 ⟨by omega,hk,hx,hR,hC,by omega⟩ O0 ?_
  clear hx hR hC;rintro i w8 ⟨hi,ba,hx,hR,hC,a0⟩;have af:=Gw ((Cg s).take i) (λj hj=>by
   have ap:j<i:=by simp at hj;omega
   have bb:j<(Cg s).length:=by omega
   have:=a0 j ap;have e:Ab ((Cg s).take i) j=Ab (Cg s) j:=by
    unfold Ab;rw [List.getD_eq_getElem?_getD,List.getD_eq_getElem?_getD,List.getElem?_take,if_pos ap]
   rw [e];exact this)
  have b1:((Cg s).take i).length=i:=by simp;omega
  rw [b1] at af;have bc:(10:Int) ^ i≤10000:=by
   have:i=0∨i=1∨i=2∨i=3∨i=4:=by omega
   rcases this with rfl | rfl | rfl | rfl | rfl<;>decide
  have fin:(k+i=s.length∨i=4)→(Cg s).take i=(Cg s).take 4:=λh=>by
   rcases h with h | h
   ·rw [List.take_of_length_le (by omega),List.take_of_length_le (by omega)]
   ·rw [h]
  refine Sa ?_;refine B6 (λh1=>?_) λh1=>?_
  ·have h1:k+i<s.length:=by simp at h1;omega
   refine Sa ?_;refine Am (λh2=>?_) λh2=>?_
   ·have h2:i<4:=by simp at h2;omega
    refine Sa ?_;refine Ap rfl rfl (E2 _ _) ?_;rintro v w9 ⟨rfl,aj⟩;replace hR:=hR.ext aj;replace hC:=hC.ext aj;replace hx:=hx.trans aj;have ag:Ab (Cg s) i=Ab s (k+i):=by rw [←a4,Fi]
    have bd:=CA s (k+i);refine Sa ?_;refine Am (λh3=>?_) λh3=>?_
    ·have h3:Al (Ab (Cg s) i)=false:=by
      have h3:(!Al (Ab s (k+i)))=true:=h3;rw [ag];simpa using h3
     refine Sa ?_;refine AM λak a6 al=>?_;refine Sa ?_;refine QW.body_ct Tryz.results163 rfl al rfl rfl rfl rfl ⟨?_,hx.step a6 (by simp;omega)⟩;rw [KC (T6 (by omega) h3)];rfl
    ·have h3:Al (Ab (Cg s) i)=true:=by
      have h3:(!Al (Ab s (k+i)))=false:=h3;rw [ag];simpa using h3
     have h4:48≤Ab s (k+i)∧Ab s (k+i)≤57:=by rw [ag] at h3;simpa [Al] using h3
     have e4:Ab s ((k+i:Nat):Int).toNat=Ab s (k+i):=rfl;refine Sa ?_;have aq:i<(Cg s).length:=by omega
     have e5:Ay 0 ((Cg s).take (i+1))=10*Ay 0 ((Cg s).take i)+(Ab s (k+i) - 48):=by
      rw [IW aq,Fm,←Bz aq,ag]
     refine QW.again (i+1) ⟨by omega,by omega,hx,hR,hC,?_⟩ (Ad.cons rfl (Ad.cons rfl (Ad.cons rfl (Ad.cons rfl (Ad.cons rfl (Ad.cons rfl (Ad.cons rfl (Ad.cons (by rw [e5];exact rfl) (Ad.cons rfl Ad.nil))))))))) (by omega);intro j hj;by_cases ac:j=i
     ·subst ac;exact h3
     ·exact a0 j (by omega)
   ·have h2:i=4:=by simp at h2;omega
    subst h2;refine Sa ?_;exact QW.head () ⟨hx,hR,hC,af.1,by omega⟩ Hh
  ·have h1:k+i=s.length:=by simp at h1;omega
   have e6:=fin (Or.inl h1);rw [e6] at af;refine Sa ?_;refine QW.head () ⟨hx,hR,hC,af.1,by omega⟩ (Ad.cons rfl (Ad.cons rfl (Ad.cons rfl (Ad.cons rfl (Ad.cons rfl (Ad.cons rfl (Ad.cons (by rw [←e6];exact rfl) Ad.nil)))))))
 clear hx hR hC hk a4 b0 k;rintro _ w8 ⟨hx,hR,hC,be,bf⟩;have ar:(CD s).length≤1000:=by
  unfold CD;split
  ·exact Nat.le_trans (Px s [33]) hs
  ·simp
 refine Sa ?_;refine BS λw9 au hC=>?_;replace hR:=hR.chg au (by simp;omega);replace hx:=hx.step au (by simp;omega);refine Sa ?_;refine BS λak a6 hC=>?_;replace hR:=hR.chg a6 (by simp;omega);replace hx:=hx.step a6 (by simp;omega);replace hC:Blk ak C (AQ (I1 s)) 113:=hC;have bad:(AP (I1 s)=false∨Cd (I1 s)≠s∨(AO (Ah AX (BU s))).isSome=false)→AZ s=false:=λh=>ON λr hr e=>by
  obtain ⟨e1,e2⟩:=VK hr e;rcases h with h | h | h
  ·rw [e1,hr] at h;cases h
  ·rw [e1,Cd,if_pos hr] at h;exact h e
  ·rw [e2] at h;cases h
 refine Sa ?_
 cases b2:(AO (Ah AX (BU s))).isSome with
 | false=>
  have a5:=bad (Or.inr (Or.inr b2));refine Sa ?_;refine AM λam a1 a2=>?_;refine Sa ?_;refine QW.body_ct Tryz.results163 rfl a2 rfl rfl rfl rfl ⟨?_,hx.step a1 (by simp;omega)⟩;rw [KC a5]
  rfl
 | true=>
  refine Sa ?_;refine Ap rfl rfl (EH (I1 s) (Nat.le_trans ar (by omega)) ak) ?_;rintro v b3 ⟨rfl,a8⟩;replace hR:=hR.ext a8;replace hC:=hC.ext a8;replace hx:=hx.trans a8
  cases hm:AP (I1 s) with
  | false=>
   have a5:=bad (Or.inl hm);refine Sa ?_;refine AM λam a1 a2=>?_;refine Sa ?_;refine QW.body_ct Tryz.results163 rfl a2 rfl rfl rfl rfl ⟨?_,hx.step a1 (by simp;omega)⟩;rw [KC a5]
   rfl
  | true=>
   refine Sa ?_;refine Ap rfl rfl (FK (I1 s) ar b3) ?_;rintro v bg ⟨rfl,a9⟩;replace hR:=hR.ext a9;replace hC:=hC.ext a9;replace hx:=hx.trans a9;refine Sa ?_;refine Am (λh1=>?_) λh1=>?_
   ·have h1:Cd (I1 s)≠s:=by simpa using h1
    have a5:=bad (Or.inr (Or.inl h1));refine Sa ?_;refine AM λam a1 a2=>?_;refine Sa ?_;refine QW.body_ct Tryz.results163 rfl a2 rfl rfl rfl rfl ⟨?_,hx.step a1 (by simp;omega)⟩;rw [KC a5];rfl
   ·have h1:Cd (I1 s)=s:=by simpa using h1
    refine Sa ?_;refine AM λam a1 a2=>?_;refine Sa ?_;refine QW.body_ct Tryz.results163 rfl a2 rfl rfl rfl rfl ⟨?_,hx.step a1 (by simp;omega)⟩;rw [Cd,if_pos hm] at h1;obtain ⟨e1,e2⟩:=Od hm;rw [h1] at e1 e2;rw [EV,if_pos e1,e2];rfl
def Gb (c:Int):Bool:=AX c||(decide (97≤c)&&decide (c≤122))||decide (c=36)
def D3 (c:Int):Bool:=Gb c||Al c||decide (c=33)
def Ff (c:Int):Bool:=decide (c=32)
def Us (c:Int):Bool:=AX c||Al c
def JN (l:List UInt8):Bool:=decide (l≠[])&&decide (l.length≤12)&&AX (Ab l 0)&&decide (∀j,j<l.length→Us (Ab l j)=true)
theorem Sd:JN []=false:=rfl
theorem P5 {l:List UInt8} (h:12<l.length):JN l=false:=by simp [JN];intros;omega
theorem NE {l:List UInt8} (h:AX (Ab l 0)=false):JN l=false:=by simp [JN,h]
theorem UJ {l:List UInt8} {k:Nat} (hk:k<l.length) (h:Us (Ab l k)=false):JN l=false:=by
 simp only [JN,Bool.and_eq_false_iff,decide_eq_false_iff_not];exact Or.inr λhh=>by rw [hh k hk] at h;cases h
theorem P6 {l:List UInt8} (h0:l≠[]) (h1:l.length≤12) (h2:AX (Ab l 0)=true) (h3:∀j,j<l.length→Us (Ab l j)=true):JN l=true:=by
 simp [JN,h0,h1,h2];exact h3
structure An where
 kind:Int
 text:List UInt8
 num:Int
 ref:Co
 at_:Int
deriving DecidableEq
def Bm (x:An):List Value:=[.int .i64 x.kind,Aj x.text,.int .i64 x.num,Aj x.ref.sheet,.int .i64 x.ref.col,.int .i64 x.ref.row,.bool x.ref.ac,.bool x.ref.ar,.int .i64 x.at_]
def A3:Co:=⟨[],0,0,false,false⟩
theorem Dh (l:List UInt8) (a k:Nat):Ab (l.drop a) k=Ab l (a+k):=by
 simp [Ab,List.getD_eq_getElem?_getD,List.getElem?_drop]
theorem KX {s:List UInt8} {a k:Nat}:cut s a k=(s.take k).drop a:=by rw [cut,List.drop_take]
theorem G9 (p:Int→Bool) (s:List UInt8) (a k:Nat) (ha:a≤k) (hk:k≤s.length) (hall:∀j,a≤j→j<k→p (Ab s j)=true) (h:k=s.length∨p (Ab s k)=false) :
  (s.take k).drop a=Ah p (s.drop a)∧k=a+(Ah p (s.drop a)).length:=by
 have:=JJ p (s.drop a) (k - a) (by simp;omega) (λj hj=>by rw [Dh];exact hall _ (by omega) (by omega)) (by
  rcases h with h | h
  ·exact Or.inl (by simp;omega)
  ·exact Or.inr (by rw [Dh,show a+(k - a)=k by omega];exact h))
 have e:(s.take k).drop a=(s.drop a).take (k - a):=by rw [List.drop_take]
 have h2:=congrArg List.length this.1;rw [e,this.1];refine ⟨rfl,?_⟩;rw [←h2];simp;omega
def Kj (l:List UInt8):Option (An×Nat):=
 let sp:=Ah Al l
 match Lib.atoiAll sp with
 | .ok z=>if Ab sp 0≠48∨sp.length=1 then some (⟨1,[],z,A3,0⟩,sp.length) else none
 | _=>none
def DP (l:List UInt8):Option (An×Nat):=
 let sp:=Ah D3 l
 if AZ sp then some (⟨4,[],0,Di sp,0⟩,sp.length) else if JN sp then some (⟨3,sp,0,A3,0⟩,sp.length) else none
def DG:List UInt8:=[35,82,69,70,33]
def Bf:List (List UInt8):=[[60,62],[60,61],[62,61],[43],[45],[42],[47],[38],[61],[60],[62],[40],[41],[44],[58]]
def EL (l:List UInt8):Option (An×Nat):=
 if Lib.hasPrefix l DG then some (⟨6,[],0,A3,0⟩,5) else (Bf.find? λs=>Lib.hasPrefix l s).map λs=>(⟨5,s,0,A3,0⟩,s.length)
def AY:List UInt8→Option (List UInt8×Nat)
 | []=>none
 | [c]=>if c=34 then some ([],1) else none
 | c::d::r=>
  if c=34 then (if d=34 then (AY r).map λx=>(34::x.1,x.2+2) else some ([],1))
  else if c<32 then none else (AY (d::r)).map λx=>(c::x.1,x.2+1)
def El (l:List UInt8):Option (An×Nat):=(AY (l.drop 1)).map λx=>(⟨2,x.1,0,A3,0⟩,x.2+1)
def Cj (l:List UInt8):Option (An×Nat):=
 if Al (Ab l 0) then Kj l else if Ab l 0=34 then El l else if Gb (Ab l 0) then DP l else EL l
theorem S3 {l:List UInt8} {z:Int} (h:Lib.atoiAll (Ah Al l)=.ok z):Kj l=if Ab (Ah Al l) 0≠48∨(Ah Al l).length=1 then some (⟨1,[],z,A3,0⟩,(Ah Al l).length) else none:=by
 simp only [Kj,h]
theorem PV {l:List UInt8} (h:∀z,Lib.atoiAll (Ah Al l)≠.ok z):Kj l=none:=by
 unfold Kj
 cases e:Lib.atoiAll (Ah Al l) with
 | ok z=>exact absurd e (h z)
 | _=>simp only [e]
theorem Mc {α:Type} (p:α→Bool) (d:α):∀(l:List α) (k:Nat),k<l.length→(∀j,j<k→p (l.getD j d)=false)→p (l.getD k d)=true→l.find? p=some (l.getD k d)
 | [],k,hk,_,_=>by simp at hk
 | x::r,0,_,_,h=>by
  have h:p x=true:=h
  simp [List.find?,h]
 | x::r,k+1,hk,hn,h=>by
  have h0:p x=false:=hn 0 (by omega);have ih:=Mc p d r k (by simpa using hk) (λj hj=>hn (j+1) (by omega)) h;simp only [List.find?,h0];exact ih
theorem NA {α:Type} (p:α→Bool) (d:α):∀(l:List α),(∀j,j<l.length→p (l.getD j d)=false)→l.find? p=none
 | [],_=>rfl
 | x::r,hn=>by
  have h0:p x=false:=hn 0 (by simp);simp only [List.find?,h0];exact NA p d r (λj hj=>hn (j+1) (by simp;omega))
theorem Kn {s p:List UInt8} (h:Lib.hasPrefix s p=true):p.length≤s.length:=(List.isPrefixOf_iff_prefix.1 h).length_le
theorem HL {p:Int→Bool} {l:List UInt8} (hl:0<l.length) (h:p (Ab l 0)=true):0<(Ah p l).length∧Ab (Ah p l) 0=Ab l 0:=by
 cases l with
 | nil=>simp at hl
 | cons c r=>
  have hc:p (c.toNat:Int)=true:=h;simp [Ah,hc];rfl
theorem Ei (p:Int→Bool) (l:List UInt8):(Ah p l).length≤l.length:=(List.takeWhile_prefix _).length_le
theorem FN {s:List UInt8} {i:Nat} (h:i<s.length):∃c,s.drop i=c::s.drop (i+1)∧Ab s i=(c.toNat:Int):=
 ⟨s[i],List.drop_eq_getElem_cons h,Bz h⟩
theorem V6 {c:UInt8} (h:(c.toNat:Int)=34):c=34:=UInt8.toNat_inj.1 (by simpa using (by omega:c.toNat=34))
theorem OW {c:UInt8} (h:(c.toNat:Int)≠34):c≠34:=by
 rintro rfl;exact h rfl
theorem Wv {c:UInt8} (h:(c.toNat:Int)<32):c<32:=UInt8.lt_iff_toNat_lt.2 (by simpa using (by omega:c.toNat<32))
theorem Wu {c:UInt8} (h:¬(c.toNat:Int)<32):¬c<32:=λhh=>h (by have:=UInt8.lt_iff_toNat_lt.1 hh;simp at this;omega)
theorem QB {s:List UInt8} {i:Nat} (h:s.length≤i):AY (s.drop i)=none:=by
 rw [List.drop_eq_nil_of_le h];rfl
theorem QE {s:List UInt8} {i:Nat} (h:i+1<s.length) (h1:Ab s i=34) (h2:Ab s (i+1)=34):AY (s.drop i)=(AY (s.drop (i+2))).map λx=>(34::x.1,x.2+2):=by
 obtain ⟨c,e,hc⟩:=FN (show i<s.length by omega);obtain ⟨d,e2,hd⟩:=FN h;rw [e,e2];obtain rfl:=V6 (hc.symm.trans h1);obtain rfl:=V6 (hd.symm.trans h2);simp [AY]
theorem GV {s:List UInt8} {i:Nat} (h:i<s.length) (h1:Ab s i=34) (h2:i+1<s.length→Ab s (i+1)≠34):AY (s.drop i)=some ([],1):=by
 obtain ⟨c,e,hc⟩:=FN h;rw [e];obtain rfl:=V6 (hc.symm.trans h1);by_cases hl:i+1<s.length
 ·obtain ⟨d,e2,hd⟩:=FN hl;rw [e2];have:=OW (c:=d) (by rw [←hd];exact h2 hl);simp [AY,this]
 ·rw [List.drop_eq_nil_of_le (by omega)];simp [AY]
theorem QD {s:List UInt8} {i:Nat} (h:i<s.length) (h1:Ab s i<32):AY (s.drop i)=none:=by
 obtain ⟨c,e,hc⟩:=FN h;rw [e];have h3:=Wv (c:=c) (by rw [←hc];exact h1);have h4:=OW (c:=c) (by omega)
 cases s.drop (i+1) with
 | nil=>simp [AY,h4]
 | cons d r=>simp [AY,h4,h3]
theorem SD {s:List UInt8} {i:Nat} (h:i<s.length) (h1:Ab s i≠34) (h2:¬Ab s i<32):AY (s.drop i)=(AY (s.drop (i+1))).map λx=>(ch (Ab s i)::x.1,x.2+1):=by
 obtain ⟨c,e,hc⟩:=FN h;rw [e];have h3:=Wu (c:=c) (by rw [←hc];exact h2);have h4:=OW (c:=c) (by rw [←hc];exact h1);have h5:ch (Ab s i)=c:=by rw [hc];simp [ch]
 rw [h5]
 cases s.drop (i+1) with
 | nil=>simp [AY,h4]
 | cons d r=>simp [AY,h4,h3]
def Et (s:List UInt8) (a i:Nat) (out:List UInt8):Prop:=a≤i∧AY (s.drop a)=(AY (s.drop i)).map λx=>(out++x.1,x.2+(i - a))
theorem Et.start (s:List UInt8) (a:Nat):Et s a a []:=⟨Nat.le_refl _,by simp⟩
theorem Et.go {s:List UInt8} {a i j:Nat} {out:List UInt8} {c:UInt8} (h:Et s a i out) (hj:i≤j) (e:AY (s.drop i)=(AY (s.drop j)).map λx=>(c::x.1,x.2+(j - i))):Et s a j (out++[c]):=by
 refine ⟨by have:=h.1;omega,?_⟩;rw [h.2,e,Option.map_map]
 congr 1
 funext x
 have:=h.1;simp;omega
def F5 (l:List UInt8) (a:Nat):Option (List An):=
 match _h:l.drop (Ah Ff l).length with
 | []=>some [⟨0,[],0,A3,((a+(Ah Ff l).length:Nat):Int)⟩]
 | c::r=>match Cj (c::r) with
  | none=>none
  | some (t,k)=>if _hk:k=0 then none else (F5 ((c::r).drop k) (a+(Ah Ff l).length+k)).map ({t with at_:=((a+(Ah Ff l).length:Nat):Int)}::·)
 termination_by l.length
 decreasing_by
 have:=congrArg List.length _h;simp at this;simp;omega
def Hj (s:List UInt8):Option (List An):=F5 s 0
theorem EB {l:List UInt8} {a:Nat} (h:l.drop (Ah Ff l).length=[]):F5 l a=some [⟨0,[],0,A3,((a+(Ah Ff l).length:Nat):Int)⟩]:=by
 rw [F5]
 split
 ·rfl
 ·rename_i c r e;rw [h] at e;cases e
theorem F6 {l l':List UInt8} {a:Nat} (h:l.drop (Ah Ff l).length=l') (hl:l'≠[]) (h1:Cj l'=none):F5 l a=none:=by
 rw [F5]
 split
 ·rename_i e;rw [h] at e;exact absurd e hl
 ·rename_i c r e;rw [h] at e;subst e;rw [h1]
theorem FQ {l l':List UInt8} {a k:Nat} {t:An} (h:l.drop (Ah Ff l).length=l') (hl:l'≠[]) (h1:Cj l'=some (t,k)) (hk:0<k) :
  F5 l a=(F5 (l'.drop k) (a+(Ah Ff l).length+k)).map ({t with at_:=((a+(Ah Ff l).length:Nat):Int)}::·):=by
 rw [F5]
 split
 ·rename_i e;rw [h] at e;exact absurd e hl
 ·rename_i c r e;rw [h] at e;subst e;rw [h1];simp only;rw [dif_neg (by omega)]
theorem MD {l:List UInt8} {t:An} {k:Nat} (h:Kj l=some (t,k)):k=(Ah Al l).length∧t.kind=1:=by
 unfold Kj at h;simp only at h
 split at h
 ·split at h
  ·simp only [Option.some.injEq,Prod.mk.injEq] at h;exact ⟨h.2.symm,by rw [←h.1]⟩
  ·cases h
 ·cases h
theorem R3:AZ []=false:=by decide +kernel
theorem Ot {l:List UInt8} {t:An} {k:Nat} (h:DP l=some (t,k)):k=(Ah D3 l).length∧0<k:=by
 unfold DP at h;simp only at h
 split at h
 ·rename_i hr;simp only [Option.some.injEq,Prod.mk.injEq] at h;refine ⟨h.2.symm,?_⟩;rw [←h.2]
  cases e:Ah D3 l with
  | nil=>rw [e,R3] at hr;cases hr
  | cons _ _=>simp
 ·split at h
  ·rename_i hr;simp only [Option.some.injEq,Prod.mk.injEq] at h;refine ⟨h.2.symm,?_⟩;rw [←h.2]
   cases e:Ah D3 l with
   | nil=>rw [e,Sd] at hr;cases hr
   | cons _ _=>simp
  ·cases h
theorem Ul {l:List UInt8} {t:An} {k:Nat} (h:El l=some (t,k)):0<k:=by
 unfold El at h
 cases e:AY (l.drop 1) with
 | none=>rw [e] at h;cases h
 | some x=>
  rw [e] at h;simp only [Option.map_some,Option.some.injEq,Prod.mk.injEq] at h;omega
theorem Uh {l:List UInt8} {t:An} {k:Nat} (h:EL l=some (t,k)):0<k:=by
 unfold EL at h
 split at h
 ·simp only [Option.some.injEq,Prod.mk.injEq] at h;omega
 ·cases e:Bf.find? λs=>Lib.hasPrefix l s with
  | none=>rw [e] at h;cases h
  | some x=>
   rw [e] at h;simp only [Option.map_some,Option.some.injEq,Prod.mk.injEq] at h;have hm:=List.mem_of_find?_eq_some e;have:∀s∈Bf,0<s.length:=by decide
   have:=this x hm;omega
theorem ED {l:List UInt8} (hl:l≠[]) {t:An} {k:Nat} (h:Cj l=some (t,k)):0<k:=by
 unfold Cj at h
 split at h
 ·rename_i hd;rw [(MD h).1];exact (HL (List.length_pos_iff.2 hl) hd).1
 ·split at h
  ·exact Ul h
  ·split at h
   ·exact (Ot h).2
   ·exact Uh h
theorem Rs {l m:List UInt8} {a b:Nat} (h:l.drop (Ah Ff l).length=m.drop (Ah Ff m).length) (ha:a+(Ah Ff l).length=b+(Ah Ff m).length):F5 l a=F5 m b:=by
 cases e:m.drop (Ah Ff m).length with
 | nil=>rw [EB (h.trans e),EB e,ha]
 | cons c r=>
  cases ho:Cj (c::r) with
  | none=>rw [F6 (h.trans e) (by simp) ho,F6 e (by simp) ho]
  | some x=>
   obtain ⟨t,k⟩:=x;have hk:=ED (by simp) ho;rw [FQ (h.trans e) (by simp) ho hk,FQ e (by simp) ho hk,ha]
theorem OS:∀(l:List UInt8) {x:List UInt8×Nat},AY l=some x→x.2≤l.length
 | [],x,h=>by simp [AY] at h
 | [c],x,h=>by
  simp only [AY] at h
  split at h
  ·simp only [Option.some.injEq] at h;subst h;simp
  ·cases h
 | c::d::r,x,h=>by
  simp only [AY] at h
  split at h
  ·split at h
   ·cases e:AY r with
    | none=>rw [e] at h;cases h
    | some y=>
     rw [e] at h;simp only [Option.map_some,Option.some.injEq] at h;have:=OS r e;subst h;simp;omega
   ·simp only [Option.some.injEq] at h;subst h;simp
  ·split at h
   ·cases h
   ·cases e:AY (d::r) with
    | none=>rw [e] at h;cases h
    | some y=>
     rw [e] at h;simp only [Option.map_some,Option.some.injEq] at h;have:=OS (d::r) e;subst h;simp at this ⊢;omega
theorem OE {l:List UInt8} {t:An} {k:Nat} (h:Cj l=some (t,k)):k≤l.length:=by
 unfold Cj at h
 split at h
 ·rw [(MD h).1];exact Ei _ _
 ·split at h
  ·unfold El at h
   cases e:AY (l.drop 1) with
   | none=>rw [e] at h;cases h
   | some x=>
    rw [e] at h;simp only [Option.map_some,Option.some.injEq,Prod.mk.injEq] at h;have:=OS _ e
    cases l with
    | nil=>cases e
    | cons c r=>
     simp at this ⊢;omega
  ·split at h
   ·rw [(Ot h).1];exact Ei _ _
   ·unfold EL at h
    split at h
    ·rename_i hp;simp only [Option.some.injEq,Prod.mk.injEq] at h;have:=Kn hp;have h5:DG.length=5:=rfl;omega
    ·cases e:Bf.find? λs=>Lib.hasPrefix l s with
     | none=>rw [e] at h;cases h
     | some x=>
      rw [e] at h;simp only [Option.map_some,Option.some.injEq,Prod.mk.injEq] at h;have:=Kn (List.find?_some e);omega
theorem PD:∀(n:Nat) (l:List UInt8) (a:Nat) {out:List An},l.length≤n→F5 l a=some out→out.length≤l.length+1
 | n,l,a,out,hn,h=>by
  cases e:l.drop (Ah Ff l).length with
  | nil=>
   rw [EB e] at h;simp only [Option.some.injEq] at h
   subst h;simp
  | cons c r=>
   have hl:=congrArg List.length e;simp at hl
   cases ho:Cj (c::r) with
   | none=>rw [F6 e (by simp) ho] at h;cases h
   | some x=>
    obtain ⟨t,k⟩:=x;have hk:=ED (by simp) ho;have hk2:=OE ho;rw [FQ e (by simp) ho hk] at h
    cases hr:F5 ((c::r).drop k) (a+(Ah Ff l).length+k) with
    | none=>rw [hr] at h;cases h
    | some y=>
     rw [hr] at h;simp only [Option.map_some,Option.some.injEq] at h;subst h
     match n with
     | 0=>omega
     | n+1=>
      have hd:((c::r).drop k).length=r.length+1 - k:=by simp
      have:=PD n ((c::r).drop k) _ (by rw [hd];omega) hr;simp only [List.length_cons];rw [hd] at this;omega
theorem PF {s:List UInt8} {l:List An} (h:Hj s=some l):l.length≤s.length+1:=PD _ s 0 (Nat.le_refl _) h
def DS (s:List UInt8) (a:Nat) (out:List An):Prop:=Hj s=(F5 (s.drop a) a).map (out++·)
theorem DS.start (s:List UInt8):DS s 0 []:=by simp [DS,Hj]
theorem DS.end {s:List UInt8} {a:Nat} {out:List An} (h:DS s a out) (he:a+(Ah Ff (s.drop a)).length=s.length):Hj s=some (out++[⟨0,[],0,A3,(s.length:Int)⟩]):=by
 rw [h,EB (by rw [List.drop_drop,he,List.drop_length]),he];rfl
theorem DS.bad {s:List UInt8} {a c:Nat} {out:List An} (h:DS s a out) (he:a+(Ah Ff (s.drop a)).length=c) (hc:c<s.length) (h1:Cj (s.drop c)=none):Hj s=none:=by
 rw [h,F6 (l':=s.drop c) (by rw [List.drop_drop,he]) (by intro hn;have:=congrArg List.length hn;simp at this;omega) h1];rfl
theorem DS.go {s:List UInt8} {a c k:Nat} {out:List An} {t:An} (h:DS s a out) (he:a+(Ah Ff (s.drop a)).length=c) (hc:c<s.length) (h1:Cj (s.drop c)=some (t,k)):DS s (c+k) (out++[{t with at_:=(c:Int)}]):=by
 have a0:s.drop c≠[]:=by intro hn;have:=congrArg List.length hn;simp at this;omega
 unfold DS;rw [h,FQ (l':=s.drop c) (by rw [List.drop_drop,he]) a0 h1 (ED a0 h1),he,List.drop_drop,Option.map_map]
 congr 1
 funext x
 simp
theorem DS.blank {s:List UInt8} {a:Nat} {out:List An} (h:DS s a out) (ha:a<s.length) (hb:Ab s a=32):DS s (a+1) out:=by
 unfold DS;rw [h];have e:(Ah Ff (s.drop a)).length=(Ah Ff (s.drop (a+1))).length+1:=by
  obtain ⟨c,e,hc⟩:=FN ha;rw [e];have:Ff (c.toNat:Int)=true:=by simp [Ff];omega
  simp [Ah,this]
 have e2:(s.drop a).drop (Ah Ff (s.drop a)).length=(s.drop (a+1)).drop (Ah Ff (s.drop (a+1))).length:=by
  rw [List.drop_drop,List.drop_drop,e]
  congr 1
  omega
 have e3:a+(Ah Ff (s.drop a)).length=a+1+(Ah Ff (s.drop (a+1))).length:=by omega
 rw [Rs e2 e3]
theorem NQ (acc:Int) (c:UInt8) (r:List UInt8):Ay acc (c::r)=Ay (10*acc+((c.toNat:Int) - 48)) r:=rfl
theorem Ih:∀(l:List UInt8) (acc:Int),0≤acc→(∀c∈l,48≤c.toNat)→acc≤Ay acc l
 | [],acc,_,_=>Int.le_refl _
 | c::r,acc,h,hd=>by
  rw [NQ];have hc:=hd c (by simp);have:=Ih r (10*acc+((c.toNat:Int) - 48)) (by omega) (λx hx=>hd x (by simp [hx]));omega
theorem J8:∀(l:List UInt8) (acc:Nat),acc<18446744073709551616→(∀c∈l,48≤c.toNat∧c.toNat≤57)→
  Lib.parseUint10 acc l=if Ay acc l<18446744073709551616 then .ok (Ay acc l).toNat else .range
 | [],acc,h,_=>by
  have:Ay acc []=acc:=rfl;simp only [Lib.parseUint10,this];rw [if_pos (by omega)]
  rfl
 | c::r,acc,h,hd=>by
  have hc:=hd c (by simp);have hr:∀x∈r,48≤x.toNat∧x.toNat≤57:=λx hx=>hd x (by simp [hx]);have e:(10*(acc:Int)+((c.toNat:Int) - 48))=((acc*10+(c.toNat - 48):Nat):Int):=by omega
  have hm:=Ih r (10*(acc:Int)+((c.toNat:Int) - 48)) (by omega) (λx hx=>(hr x hx).1);simp only [Lib.parseUint10];rw [if_pos hc,NQ]
  split
  ·rw [if_neg (by omega)]
  ·split
   ·rw [if_neg (by omega)]
   ·rw [J8 r _ (by omega) hr,e]
theorem Pn {l:List UInt8} (h:l≠[]) (hd:∀c∈l,Al (c.toNat:Int)=true):Lib.atoiAll l=if Ay 0 l≤9223372036854775807 then .ok (Ay 0 l) else .range:=by
 have a0:∀c∈l,48≤c.toNat∧c.toNat≤57:=λc hc=>by
  have:=hd c hc;simp [Al] at this;omega
 have hp:=J8 l 0 (by omega) a0;have hm:=Ih l 0 (by omega) (λc hc=>(a0 c hc).1)
 cases l with
 | nil=>exact absurd rfl h
 | cons c r=>
  have hc:=a0 c (by simp);rw [Lib.atoiAll_plain c r (by omega) (by omega)];have e:Lib.parseMag (c::r)=Lib.parseUint10 0 (c::r):=by simp [Lib.parseMag]
  rw [e,hp];simp only [Int.natCast_zero] at *;by_cases h1:Ay 0 (c::r)<18446744073709551616
  ·rw [if_pos h1];simp only [Lib.signless];by_cases h2:Ay 0 (c::r)≤9223372036854775807
   ·rw [if_pos h2,if_neg (by omega)]
    congr 1
    omega
   ·rw [if_neg h2,if_pos (by omega)]
  ·rw [if_neg h1,if_neg (by omega)];rfl
theorem G8 (p:Int→Bool):∀(l:List UInt8),∀c∈Ah p l,p (c.toNat:Int)=true
 | [],c,hc=>by simp [Ah] at hc
 | d::r,c,hc=>by
  have ih:=G8 p r;simp only [Ah] at hc ih;cases hd:p (d.toNat:Int)
  ·simp [hd] at hc
  ·simp only [List.takeWhile_cons,hd,if_true,List.mem_cons] at hc;rcases hc with rfl | hc
   ·exact hd
   ·exact ih c hc
theorem J4 {l:List UInt8} (h:Ah Al l≠[]):Kj l=if Ay 0 (Ah Al l)≤9223372036854775807∧(Ab (Ah Al l) 0≠48∨(Ah Al l).length=1) then some (⟨1,[],Ay 0 (Ah Al l),A3,0⟩,(Ah Al l).length) else none:=by
 have ha:=Pn h (G8 Al l);by_cases h1:Ay 0 (Ah Al l)≤9223372036854775807
 ·rw [if_pos h1] at ha;rw [S3 ha];simp only [h1,true_and]
 ·rw [if_neg h1] at ha;rw [PV (by intro z hz;rw [ha] at hz;cases hz),if_neg (by intro hh;exact h1 hh.1)]
theorem GJ (c:Int) (w:World):AA Tryz.prog 195 [.int .u8 c] w (λv w'=>v=.bool (Al c)∧Ae w w'):=by
 refine AL Tryz.func195 Tryz.ntmps195 ?_;refine Sa ?_;refine B6 (λh1=>?_) λh1=>?_
 all_goals
  refine Sa ?_;refine QW.body1 Tryz.results195 rfl ⟨?_,Chg.refl _ _⟩;simp [Al,h1]
theorem GI (c:Int) (w:World):AA Tryz.prog 220 [.int .u8 c] w (λv w'=>v=.bool (AX c)∧Ae w w'):=by
 refine AL Tryz.func220 Tryz.ntmps220 ?_;refine Sa ?_;refine B6 (λh1=>?_) λh1=>?_
 all_goals
  refine Sa ?_;refine QW.body1 Tryz.results220 rfl ⟨?_,Chg.refl _ _⟩;simp [AX,h1]
theorem Ui (c:Int) (w:World):AA Tryz.prog 167 [.int .u8 c] w (λv w'=>v=.bool (Ff c)∧Ae w w'):=by
 refine AL Tryz.func167 Tryz.ntmps167 ?_;refine Sa ?_;refine QW.body1 Tryz.results167 rfl ⟨rfl,Chg.refl _ _⟩
theorem LN (c:Int) (w:World):AA Tryz.prog 198 [.int .u8 c] w (λv w'=>v=.bool (Gb c)∧Ae w w'):=by
 refine AL Tryz.func198 Tryz.ntmps198 ?_;refine Sa ?_;refine Ap rfl rfl (GI _ _) ?_;rintro v w' ⟨rfl,hx⟩;refine Sa ?_;refine B6 (λh1=>?_) λh1=>?_
 ·refine Sa ?_;refine QW.body1 Tryz.results198 rfl ⟨?_,hx⟩;simp [Gb,h1]
 ·refine Sa ?_;refine B6 (λh2=>?_) λh2=>?_
  ·refine Sa ?_;refine B6 (λh3=>?_) λh3=>?_
   all_goals
    refine Sa ?_;refine QW.body1 Tryz.results198 rfl ⟨?_,hx⟩;simp [Gb,h1,h2,h3]
  ·refine Sa ?_;refine QW.body1 Tryz.results198 rfl ⟨?_,hx⟩;simp [Gb,h1,h2]
theorem RN (c:Int) (w:World):AA Tryz.prog 221 [.int .u8 c] w (λv w'=>v=.bool (D3 c)∧Ae w w'):=by
 refine AL Tryz.func221 Tryz.ntmps221 ?_;refine Sa ?_;refine Ap rfl rfl (LN _ _) ?_;rintro v w1 ⟨rfl,hx⟩;refine Sa ?_;refine B6 (λh1=>?_) λh1=>?_
 ·refine Sa ?_;refine QW.body1 Tryz.results221 rfl ⟨?_,hx⟩;simp [D3,h1]
 ·refine Sa ?_;refine Ap rfl rfl (GJ _ _) ?_;rintro v w2 ⟨rfl,a0⟩;replace hx:=hx.trans a0;refine Sa ?_;refine B6 (λh2=>?_) λh2=>?_
  all_goals
   refine Sa ?_;refine QW.body1 Tryz.results221 rfl ⟨?_,hx⟩;simp [D3,h1,h2]
theorem ID (p:Int→Bool) (f:Nat) (hp:∀(c:Int) (w:World),AA Tryz.prog f [.int .u8 c] w (λv w'=>v=.bool (p c)∧Ae w w')) (s:List UInt8) (hs:s.length≤1000000) (a:Nat) (ha:a≤s.length) (b:Nat) (w:World) (hB:Blk w b [Aj s,.int .i64 a] 196) :
  AA Tryz.prog 166 [.pointer (some ⟨b,0,none⟩),.func (.func f) #[] #[]] w
  (λv w'=>v=Aj (Ah p (s.drop a))∧Chg [b] w w'∧Blk w' b [Aj s,.int .i64 ((a+(Ah p (s.drop a)).length:Nat):Int)] 196):=by
 refine AL Tryz.func166 Tryz.ntmps166 ?_;refine Sa ?_;refine CW.loop (ι:=Nat) (λk w'=>a≤k∧k≤s.length∧Ae w w'∧∀j,a≤j→j<k→p (Ab s j)=true) (λk=>[(0,.pointer (some ⟨b,0,none⟩)),(1,.func (.func f) #[] #[]),(5,.int .i64 k)]) (λk=>s.length - k) a ⟨by omega,ha,Chg.refl _ _,by omega⟩ Bh ?_;rintro k w1 ⟨a2,hk,hx,a0⟩;replace hB:=hB.ext hx;refine Sa ?_;refine B6 (λh1=>?_) λh1=>?_
 ·have h1:k<s.length:=by simpa using h1
  refine Sa ?_;refine LW.call (fs:=[]) (cs:=[]) rfl rfl rfl (hp _ _) ?_;rintro v w2 ⟨rfl,a4⟩;replace hB:=hB.ext a4;replace hx:=hx.trans a4;refine Sa ?_;refine Am (λh2=>?_) λh2=>?_
  ·have h2:p (Ab s k)=true:=h2;refine Sa ?_;refine QW.again (k+1) ⟨by omega,by omega,hx,?_⟩ Bh (by omega);intro j a5 hj;by_cases a6:j=k
   ·subst a6;exact h2
   ·exact a0 j a5 (by omega)
  ·have h2:p (Ab s k)=false:=h2;obtain ⟨e1,e2⟩:=G9 p s a k a2 hk a0 (Or.inr h2);refine Sa ?_;refine Hk ?_;refine Sq ?_;refine QL.slice_str (i:=a) (j:=k) rfl rfl rfl ⟨_,_,rfl,rfl⟩ ⟨_,_,rfl,rfl⟩ a2 hk rfl ?_;refine Sq ?_;refine QL.nil λw4 a1=>?_;replace hB:=hB.ext a1;replace hx:=hx.trans a1;refine Sa ?_;refine BS λw3 hc a3=>?_;refine Sa ?_;refine QW.body1 Tryz.results166 rfl ⟨?_,hx.chg.same hc,?_⟩
   ·rw [←e1,KX]
   ·rw [←e2];exact a3
 ·have h1:k=s.length:=by simp at h1;omega
  obtain ⟨e1,e2⟩:=G9 p s a k a2 hk a0 (Or.inl h1);refine Sa ?_;refine Hk ?_;refine Sq ?_;refine QL.slice_str (i:=a) (j:=k) rfl rfl rfl ⟨_,_,rfl,rfl⟩ ⟨_,_,rfl,rfl⟩ a2 hk rfl ?_;refine Sq ?_;refine QL.nil λw4 a1=>?_;replace hB:=hB.ext a1;replace hx:=hx.trans a1;refine Sa ?_;refine BS λw3 hc a3=>?_;refine Sa ?_;refine QW.body1 Tryz.results166 rfl ⟨?_,hx.chg.same hc,?_⟩
  ·rw [←e1,KX]
  ·rw [←e2];exact a3
def Uv (s:List UInt8) (a b:Nat) (w:World) (o:Option (An×Nat)) (v:Value) (w':World):Prop:=
 ∃t ok a',v=.tuple #[.agg ⟨Bm t⟩,.bool ok]∧Chg [b] w w'∧Blk w' b [Aj s,.int .i64 ((a':Nat):Int)] 196∧a'≤s.length∧a≤a'∧o=if ok then some (t,a' - a) else none
theorem _root_.Go.E.Chg.fresh {S S':List Nat} {a b c:World} (h:Chg S a b) (k:Chg S' b c) (hs:∀j,j∈S'→a.heap.size≤j):Chg S a c:=
 (Chg.trans h k).mono λj hj hl=>by
  rcases List.mem_append.1 hj with hj | hj
  ·exact hj
  ·have:=hs j hj;omega
theorem NI (s:List UInt8) (w:World) (hs:s.length≤1000000):AA Tryz.prog 216 [Aj s] w (λv w'=>v=.bool (JN s)∧Ae w w'):=by
 refine AL Tryz.func216 Tryz.ntmps216 ?_;refine Sa ?_;refine B6 (λh0=>?_) λh0=>?_
 ·have h0:s=[]:=by simpa using h0
  subst h0;refine Sa ?_;refine QW.body1 Tryz.results216 rfl ⟨rfl,Chg.refl _ _⟩
 have h0:s≠[]:=by simpa using h0
 have hp:0<s.length:=List.length_pos_iff.2 h0;refine Sa ?_;refine B6 (λh1=>?_) λh1=>?_
 ·have h1:12<s.length:=by simp at h1;omega
  refine Sa ?_;refine QW.body1 Tryz.results216 rfl ⟨by rw [P5 h1],Chg.refl _ _⟩
 have h1:s.length≤12:=by simp at h1;omega
 refine Sa ?_;refine Ap rfl rfl (GI _ _) ?_;rintro v w1 ⟨rfl,hx⟩;refine Sa ?_;refine Am (λh2=>?_) λh2=>?_
 ·refine Sa ?_;refine QW.body1 Tryz.results216 rfl ⟨?_,hx⟩;rw [NE]
  simpa using h2
 have h2:AX (Ab s 0)=true:=by simpa using h2
 refine Sa ?_;refine CW.loop (ι:=Nat) (λk w'=>k≤s.length∧Ae w w'∧∀j,j<k→Us (Ab s j)=true) (λk=>[(0,Aj s),(18,.int .i64 s.length),(19,.int .i64 k)]) (λk=>s.length - k) 0 ⟨by omega,hx,by omega⟩ Bh ?_;rintro k w2 ⟨hk,a1,a0⟩;refine Sa ?_;refine Am (λh3=>?_) λh3=>?_
 ·have h3:k<s.length:=by simpa using h3
  refine Sa ?_;refine Ap rfl rfl (GI _ _) ?_;rintro v w3 ⟨rfl,a2⟩;refine Sa ?_;refine B6 (λh4=>?_) λh4=>?_
  ·refine Sa ?_;refine Ap rfl rfl (GJ _ _) ?_;rintro v w4 ⟨rfl,a4⟩;refine Sa ?_;refine Am (λh5=>?_) λh5=>?_
   ·refine Sa ?_;refine QW.body1 Tryz.results216 rfl ⟨?_,(a1.trans a2).trans a4⟩;rw [UJ h3];simp at h4 h5;simp [Us,h4,h5]
   ·refine Sa ?_;refine QW.again (k+1) ⟨by omega,(a1.trans a2).trans a4,?_⟩ Bh (by omega);intro j hj;by_cases a3:j=k
    ·subst a3;simp at h5;simp [Us,h5]
    ·exact a0 j (by omega)
  ·refine Sa ?_;refine QW.again (k+1) ⟨by omega,a1.trans a2,?_⟩ Bh (by omega);intro j hj;by_cases a3:j=k
   ·subst a3;simp at h4;simp [Us,h4]
   ·exact a0 j (by omega)
 ·have h3:k=s.length:=by simp at h3;omega
  subst h3;refine Sa ?_;refine QW.body1 Tryz.results216 rfl ⟨?_,a1⟩;rw [P6 h0 h1 h2 a0]
theorem R1 (s:List UInt8) (hs:s.length≤1000) (a:Nat) (ha:a<s.length) (hd:Al (Ab s a)=true) (b:Nat) (w0 w:World) (g:CU w0) (h0:Ae w0 w) (hb0:w0.heap.size≤b) (hB:Blk w b [Aj s,.int .i64 a] 196) :
  AA Tryz.prog 196 [.pointer (some ⟨b,0,none⟩)] w (Uv s a b w (Kj (s.drop a))):=by
 have a8:=Ei Al (s.drop a);have a5:(s.drop a).length=s.length - a:=by simp
 obtain ⟨aa,ab⟩:=HL (p:=Al) (l:=s.drop a) (by omega) (by rw [Dh];exact hd);have ac:=hB.lt;refine AL Tryz.func196 Tryz.ntmps196 ?_;refine Sa ?_;refine BP λC w1 ad hx hC=>?_;have ae:b<C:=by omega
 replace hB:=hB.ext hx;refine Sa ?_;refine LW.call (fs:=[]) (cs:=[]) rfl rfl rfl (ID Al _ GJ s (by omega) a (by omega) b w1 hB) ?_;rintro v w2 ⟨rfl,a3,hB⟩;replace hC:=hC.chg a3 (by simp;omega);have a0:Chg [b] w w2:=(Chg.trans hx a3).mono (by simp);have a9:Ae w0 w2:=(h0.trans hx).step a3 (by simpa using hb0);refine Sa ?_;refine Ap rfl rfl (Hm _ (by omega) w2 (g.ext a9)) ?_;rintro v w3 ⟨hv,a4⟩;replace hC:=hC.ext a4;replace hB:=hB.ext a4;replace a0:=a0.ext a4;unfold Ix at hv;by_cases a6:∃z,Lib.atoiAll (Ah Al (s.drop a))=.ok z
 ·obtain ⟨z,a7⟩:=a6;rw [a7] at hv;rw [S3 a7];simp only at hv;subst hv;refine Sa ?_
  (first | (apply LW.eql_nil;exact rfl;exact rfl;exact rfl;exact rfl) | (apply LW.eql_nil_nil;exact rfl;exact rfl;exact rfl;exact rfl))
  refine Sa ?_;refine B6 (λh3=>?_) λh3=>?_
  ·refine Sa ?_;refine AM λw4 a1 hC=>?_;replace hC:Blk w4 C (Bm ⟨1,[],z,A3,0⟩) 115:=hC;replace hB:=hB.chg a1 (by simp;omega);replace a0:=a0.fresh a1 (by simp;omega);refine Sa ?_;refine QW.body_ct Tryz.results196 rfl hC rfl rfl rfl rfl ⟨_,_,_,rfl,a0,hB,by omega,by omega,?_⟩;have h3:Ab (Ah Al (s.drop a)) 0≠48:=by simpa using h3
   simp only [h3,ne_eq,not_false_eq_true,true_or,if_true,Nat.add_sub_cancel_left]
  ·refine Sa ?_;refine AM λw4 a1 hC=>?_;replace hC:Blk w4 C (Bm ⟨1,[],z,A3,0⟩) 115:=hC;replace hB:=hB.chg a1 (by simp;omega);replace a0:=a0.fresh a1 (by simp;omega);refine Sa ?_;refine QW.body_ct Tryz.results196 rfl hC rfl rfl rfl rfl ⟨_,_,_,rfl,a0,hB,by omega,by omega,?_⟩;have h3:Ab (Ah Al (s.drop a)) 0=48:=by simpa using h3
   simp only [h3,ne_eq,not_true_eq_false,false_or,Nat.add_sub_cancel_left,decide_eq_true_eq];by_cases h4:(Ah Al (s.drop a)).length=1
   ·simp [h4]
   ·have h5:¬((Ah Al (s.drop a)).length:Int)=1:=by omega
    simp [h4,h5]
 ·have a2:∀z,Lib.atoiAll (Ah Al (s.drop a))≠.ok z:=λz hz=>a6 ⟨z,hz⟩;rw [PV a2];obtain ⟨z,t,x,rfl⟩:∃z t x,v=.tuple #[.int .i64 z,.iface t x]:=by
   split at hv
   ·rename_i z hz;exact absurd hz (a2 z)
   ·exact hv
  refine Sa ?_
  (first | (apply LW.eql_nil;exact rfl;exact rfl;exact rfl;exact rfl) | (apply LW.eql_nil_nil;exact rfl;exact rfl;exact rfl;exact rfl))
  refine Sa ?_;refine AM λw4 a1 hC=>?_;replace hC:Blk w4 C (Bm ⟨1,[],z,A3,0⟩) 115:=hC;replace hB:=hB.chg a1 (by simp;omega);replace a0:=a0.fresh a1 (by simp;omega);refine Sa ?_;refine QW.body_ct Tryz.results196 rfl hC rfl rfl rfl rfl ⟨_,_,_,rfl,a0,hB,by omega,by omega,rfl⟩
theorem VA (s:List UInt8) (hs:s.length≤1000) (a:Nat) (ha:a<s.length) (b:Nat) (w0 w:World) (g:CU w0) (h0:Ae w0 w) (hb0:w0.heap.size≤b) (hB:Blk w b [Aj s,.int .i64 a] 196) :
  AA Tryz.prog 199 [.pointer (some ⟨b,0,none⟩)] w (Uv s a b w (DP (s.drop a))):=by
 have a8:=Ei D3 (s.drop a);have a7:(s.drop a).length=s.length - a:=by simp
 have ac:=hB.lt;refine AL Tryz.func199 Tryz.ntmps199 ?_;refine Sa ?_;refine BP λC w1 ad hx hC=>?_;have ae:b<C:=by omega
 replace hB:=hB.ext hx;refine Sa ?_;refine LW.call (fs:=[]) (cs:=[]) rfl rfl rfl (ID D3 _ RN s (by omega) a (by omega) b w1 hB) ?_;rintro v w2 ⟨rfl,a4,hB⟩;replace hC:=hC.chg a4 (by simp;omega);have a0:Chg [b] w w2:=(Chg.trans hx a4).mono (by simp);have a9:Ae w0 w2:=(h0.trans hx).step a4 (by simpa using hb0);refine Sa ?_;refine Ap rfl rfl (Pe _ (by omega) w2 (g.ext a9)) ?_;rintro v w3 ⟨rfl,a5⟩;replace hC:=hC.ext a5;replace hB:=hB.ext a5;replace a0:=a0.ext a5;have af:=a0.size
 cases hr:AZ (Ah D3 (s.drop a)) with
 | true=>
  rw [EV,if_pos hr];refine Sa ?_;refine BP λF w4 aa a1 hF=>?_;have ab:C<F:=by have:=hC.lt;omega
  replace hC:=hC.ext a1;replace hB:=hB.ext a1;replace a0:=a0.ext a1;refine Sa ?_;refine AM λw5 a2 hF=>?_;replace hF:Blk w5 F (AQ (Di (Ah D3 (s.drop a)))) 113:=hF;replace hC:=hC.chg a2 (by simp;omega);replace hB:=hB.chg a2 (by simp;omega);replace a0:=a0.fresh a2 (by simp;omega);refine Sa ?_;refine AM λw6 a3 hC=>?_;replace hC:Blk w6 C (Bm ⟨4,[],0,Di (Ah D3 (s.drop a)),0⟩) 115:=hC;replace hB:=hB.chg a3 (by simp;omega);replace a0:=a0.fresh a3 (by simp;omega);refine Sa ?_;refine QW.body_ct Tryz.results199 rfl hC rfl rfl rfl rfl ⟨_,_,_,rfl,a0,hB,by omega,by omega,?_⟩
  simp [DP,hr]
 | false=>
  rw [KC hr];refine Sa ?_;refine BP λF w4 aa a1 hF=>?_;have ab:C<F:=by have:=hC.lt;omega
  replace hC:=hC.ext a1;replace hB:=hB.ext a1;replace a0:=a0.ext a1;refine Sa ?_;refine AM λw5 a2 hF=>?_;replace hC:=hC.chg a2 (by simp;omega);replace hB:=hB.chg a2 (by simp;omega);replace a0:=a0.fresh a2 (by simp;omega);refine Sa ?_;refine Ap rfl rfl (NI _ w5 (by omega)) ?_;rintro v w7 ⟨rfl,a6⟩;replace hC:=hC.ext a6;replace hB:=hB.ext a6;replace a0:=a0.ext a6;refine Sa ?_;refine AM λw6 a3 hC=>?_;replace hC:Blk w6 C (Bm ⟨3,Ah D3 (s.drop a),0,A3,0⟩) 115:=hC;replace hB:=hB.chg a3 (by simp;omega);replace a0:=a0.fresh a3 (by simp;omega);refine Sa ?_;refine QW.body_ct Tryz.results199 rfl hC rfl rfl rfl rfl ⟨_,_,_,rfl,a0,hB,by omega,by omega,?_⟩;simp [DP,hr]
theorem Vz (k:Nat) (hk:k<15):(Bf.map Aj)[k]?=some (Aj (Bf.getD k [])):=by
 have:Bf.length=15:=rfl;simp [List.getD_eq_getElem?_getD,List.getElem?_eq_getElem (show k<Bf.length by omega)]
theorem Ug (s:List UInt8) (hs:s.length≤1000) (a:Nat) (ha:a<s.length) (b:Nat) (w:World) (hB:Blk w b [Aj s,.int .i64 a] 196) :
  AA Tryz.prog 200 [.pointer (some ⟨b,0,none⟩)] w (Uv s a b w (EL (s.drop a))):=by
 have a7:(s.drop a).length=s.length - a:=by simp
 have ad:=hB.lt;refine AL Tryz.func200 Tryz.ntmps200 ?_;refine Sa ?_;refine BP λC w1 ae hx hC=>?_;have af:b<C:=by omega
 replace hB:=hB.ext hx;refine Sa ?_;refine Hk ?_;refine Sq ?_;refine QL.slice_str (i:=a) (j:=s.length) rfl rfl rfl ⟨_,_,rfl,rfl⟩ rfl (by omega) (by omega) rfl ?_;refine Sq ?_;refine QL.call0 rfl rfl (λw' _=>Iy _ _ w') ?_;refine Sq ?_;refine QL.nil λw2 a5=>?_;rw [DW];replace hC:=hC.ext a5;replace hB:=hB.ext a5;replace hx:=hx.trans a5;refine Sa ?_;refine Am (λhd=>?_) λhd=>?_
 ·have ab:=Kn hd;simp only [List.length_cons,List.length_nil] at ab;refine Sa ?_;refine BS λw3 a8 hB=>?_;replace hC:=hC.chg a8 (by simp;omega);have a0:Chg [b] w w3:=(Chg.trans hx a8).mono (by simp);refine Sa ?_;refine AM λw4 a9 hC=>?_;replace hC:Blk w4 C (Bm ⟨6,[],0,A3,0⟩) 115:=hC;replace hB:Blk w4 b [Aj s,.int .i64 ((a+5:Nat):Int)] 196:=hB.chg a9 (by simp;omega);replace a0:=a0.fresh a9 (by simp;omega);refine Sa ?_;refine QW.body_ct Tryz.results200 rfl hC rfl rfl rfl rfl ⟨_,_,_,rfl,a0,hB,by omega,by omega,?_⟩;have hd:Lib.hasPrefix (s.drop a) DG=true:=hd;simp [EL,hd]
 have hd:Lib.hasPrefix (s.drop a) DG=false:=hd;refine Sa ?_;refine Cl λA w3 ag a6 hA=>?_;replace hA:Blk w3 A (Bf.map Aj) 9:=hA;have ah:C<A:=by have:=hC.lt;omega
 replace hC:=hC.ext a6;replace hB:=hB.ext a6;replace hx:=hx.trans a6;have ai:=hx.size;refine Sa ?_;refine CW.loop (ι:=Nat) (λk w'=>k≤15∧Ae w3 w'∧∀j,j<k→Lib.hasPrefix (s.drop a) (Bf.getD j [])=false) (λk=>[(0,.pointer (some ⟨b,0,none⟩)),(2,.pointer (some ⟨C,0,none⟩)),(24,.slice (some ⟨A,0,none⟩) 15 15),(25,.int .i64 15),(26,.int .i64 k)]) (λk=>15 - k) 0 ⟨by omega,Chg.refl _ _,by omega⟩ C2 ?_;rintro k w5 ⟨hk,a1,a2⟩;replace hA:=hA.ext a1;replace hC:=hC.ext a1;replace hB:=hB.ext a1;replace hx:=hx.trans a1;refine Sa ?_;refine Am (λh1=>?_) λh1=>?_
 ·have h1:k<15:=by simp at h1;omega
  refine Sa ?_;refine LW.idx_slice (j:=k) rfl rfl rfl rfl rfl (by omega) (by simp;omega) (by show 0+_*1=_;omega) rfl ?_;refine Sa ?_;refine LW.load rfl hA (Vz k h1) rfl rfl rfl ?_;refine Sa ?_;refine Hk ?_;refine Sq ?_;refine QL.slice_str (i:=a) (j:=s.length) rfl rfl rfl ⟨_,_,rfl,rfl⟩ rfl (by omega) (by omega) rfl ?_;refine Sq ?_;refine QL.call0 rfl rfl (λw' _=>Iy _ _ w') ?_;refine Sq ?_;refine QL.nil λw6 a4=>?_;rw [DW];replace hC:=hC.ext a4;replace hB:=hB.ext a4;replace hx:=hx.trans a4;replace a1:=a1.trans a4;refine Sa ?_;refine Am (λh2=>?_) λh2=>?_
  ·have h2:Lib.hasPrefix (s.drop a) (Bf.getD k [])=true:=h2;have hp:=Kn h2;refine Sa ?_;refine BS λw7 aa hB=>?_;replace hC:=hC.chg aa (by simp;omega);have a0:Chg [b] w w7:=(Chg.trans hx aa).mono (by simp);refine Sa ?_;refine AM λw8 a3 hC=>?_;replace hC:Blk w8 C (Bm ⟨5,Bf.getD k [],0,A3,0⟩) 115:=hC;replace hB:Blk w8 b [Aj s,.int .i64 ((a+(Bf.getD k []).length:Nat):Int)] 196:=hB.chg a3 (by simp;omega);replace a0:=a0.fresh a3 (by simp;omega);refine Sa ?_;refine QW.body_ct Tryz.results200 rfl hC rfl rfl rfl rfl ⟨_,_,_,rfl,a0,hB,by omega,by omega,?_⟩;simp only [EL,hd,Mc (λx=>Lib.hasPrefix (s.drop a) x) [] Bf k h1 a2 h2];simp
  ·have h2:Lib.hasPrefix (s.drop a) (Bf.getD k [])=false:=h2;refine Sa ?_;refine QW.again (k+1) ⟨by omega,a1,?_⟩ C2 (by omega);intro j hj;by_cases ac:j=k
   ·subst ac;exact h2
   ·exact a2 j (by omega)
 ·have h1:k=15:=by simp at h1;omega
  subst h1;refine Sa ?_;refine AM λw8 a3 hC=>?_;replace hC:Blk w8 C (Bm ⟨0,[],0,A3,0⟩) 115:=hC;replace hB:=hB.chg a3 (by simp;omega);have a0:Chg [b] w w8:=(hx.mono (S':=[b]) (by simp)).fresh a3 (by simp;omega);refine Sa ?_;refine QW.body_ct Tryz.results200 rfl hC rfl rfl rfl rfl ⟨_,_,a,rfl,a0,hB,by omega,by omega,?_⟩;simp only [EL,hd,NA (λx=>Lib.hasPrefix (s.drop a) x) [] Bf a2];simp
theorem EE {w:World} {lo:Nat} {e:TypeId} {v:Value} {out:List UInt8} {z:Int} (h0:0≤z) (h1:z≤255) (h:Ax w lo e 1 v (out.length+1) (A9 out++[.int .u8 z])):Ax w lo e 1 v (out++[ch z]).length (A9 (out++[ch z])):=by
 have e1:A9 (out++[ch z])=A9 out++[.int .u8 z]:=by simp [A9,F1 h0 h1]
 rw [e1]
 simpa using h
theorem Um (s:List UInt8) (hs:s.length≤1000) (a:Nat) (ha:a<s.length) (b:Nat) (w:World) (hB:Blk w b [Aj s,.int .i64 a] 196) :
  AA Tryz.prog 197 [.pointer (some ⟨b,0,none⟩)] w (Uv s a b w (El (s.drop a))):=by
 have af:=hB.lt;refine AL Tryz.func197 Tryz.ntmps197 ?_;refine Sa ?_;refine BP λC w1 ag hx hC=>?_;have ah:b<C:=by omega
 replace hB:=hB.ext hx;have ab:C<w1.heap.size:=hC.lt;have ai:=hx.size;refine Sa ?_;refine CW.loop (ι:=Nat×List UInt8×Value) (λk w'=>k.1≤s.length∧k.2.1.length≤k.1∧Ae w1 w'∧Ax w' w1.heap.size 5 1 k.2.2 k.2.1.length (A9 k.2.1)∧Et s (a+1) k.1 k.2.1) (λk=>[(0,.pointer (some ⟨b,0,none⟩)),(2,.pointer (some ⟨C,0,none⟩)),(4,k.2.2),(5,.int .i64 k.1)]) (λk=>s.length - k.1) (a+1,[],.slice none 0 0) ⟨by simp;omega,by simp,Chg.refl _ _,Ax.nil _ _ _ _,Et.start _ _⟩ BN ?_;rintro ⟨i,out,v⟩ w2 ⟨hi,ho,a1,a0,a5⟩;simp only at hi ho a0 a5;show CW _ _ _ _ _ [(0,.pointer (some ⟨b,0,none⟩)),(2,.pointer (some ⟨C,0,none⟩)),(4,v),(5,.int .i64 i)] _;have aj:=a5.1;have ak:C∉Af v:=a0.old ab;have a9:b∉Af v:=a0.old (by omega);replace hC:=hC.ext a1;replace hB:=hB.ext a1;have al:=a1.size;refine Sa ?_;refine Am (λh1=>?_) λh1=>?_
 ·have h1:i<s.length:=by simp at h1;omega
  refine Sa ?_;have aa:=CA s i;refine B6 (λh2=>?_) λh2=>?_
  ·have h2:Ab s i=34:=by simpa using h2
   refine Sa ?_;refine B6 (λh3=>?_) λh3=>?_
   ·have h3:i+1<s.length:=by simp at h3;omega
    refine Sa ?_;refine Am (λh4=>?_) λh4=>?_
    ·have h4:Ab s (i+1)=34:=by simpa using h4
     refine Sa ?_;refine Sa ?_;refine Cl λA w3 ac a7 hA=>?_;replace a0:=a0.ext a7;replace a1:=a1.trans a7;have ad:=a1.size;refine Sa ?_;refine LW.append rfl rfl rfl rfl rfl rfl a0 (by omega) hA rfl rfl rfl (by show (out.length+1)*2≤140737488355328;omega) rfl ?_;intro v' w4 a8 a2 ae;replace a1:=a1.step a8 (λk hk=>(a0.lt hk).1);refine Sa ?_;refine QW.again (i+2,out++[ch (Ab s i)],v') ⟨by show i+2≤_;omega,by show (out++_).length≤i+2;simp;omega,a1,EE aa.1 (by omega) a2,Et.go a5 (by omega) ?_⟩ BN (by show s.length - (i+2)<s.length - i;omega);rw [QE h3 h2 h4,show i+2 - i=2 by omega,h2];rfl
    ·have h4:i+1<s.length→Ab s (i+1)≠34:=λ_=>by simpa using h4
     refine Sa ?_;refine CW.yes rfl (by simpa using h2) ?_;refine Sa ?_;refine BS λw5 a6 hB=>?_;replace hB:Blk w5 b [Aj s,.int .i64 ((i+1:Nat):Int)] 196:=hB;replace hC:=hC.chg a6 (by simp;omega);have a3:Chg [b] w w5:=(Chg.trans (hx.trans a1) a6).mono (by simp);replace a0:=a0.chg a6 (λj hj hb=>a9 (by simp at hb;subst hb;exact hj));refine Sa ?_;refine LW.string_own rfl a0 rfl rfl rfl rfl rfl rfl rfl ?_;refine Sa ?_;refine AM λw8 a4 hC=>?_;replace hC:Blk w8 C (Bm ⟨2,out,0,A3,0⟩) 115:=hC;replace hB:=hB.chg a4 (by simp;omega);replace a3:=a3.fresh a4 (by simp;omega);refine Sa ?_;refine QW.body_ct Tryz.results197 rfl hC rfl rfl rfl rfl ⟨_,_,_,rfl,a3,hB,by omega,by omega,?_⟩;have e:=a5.2;rw [GV h1 h2 h4] at e;simp only [El,List.drop_drop];rw [e];simp;omega
   ·have h3:¬i+1<s.length:=by simp at h3;omega
    have h4:i+1<s.length→Ab s (i+1)≠34:=λh=>absurd h h3;refine Sa ?_;refine CW.yes rfl (by simpa using h2) ?_;refine Sa ?_;refine BS λw5 a6 hB=>?_;replace hB:Blk w5 b [Aj s,.int .i64 ((i+1:Nat):Int)] 196:=hB;replace hC:=hC.chg a6 (by simp;omega);have a3:Chg [b] w w5:=(Chg.trans (hx.trans a1) a6).mono (by simp);replace a0:=a0.chg a6 (λj hj hb=>a9 (by simp at hb;subst hb;exact hj));refine Sa ?_;refine LW.string_own rfl a0 rfl rfl rfl rfl rfl rfl rfl ?_;refine Sa ?_;refine AM λw8 a4 hC=>?_;replace hC:Blk w8 C (Bm ⟨2,out,0,A3,0⟩) 115:=hC;replace hB:=hB.chg a4 (by simp;omega);replace a3:=a3.fresh a4 (by simp;omega);refine Sa ?_;refine QW.body_ct Tryz.results197 rfl hC rfl rfl rfl rfl ⟨_,_,_,rfl,a3,hB,by omega,by omega,?_⟩;have e:=a5.2;rw [GV h1 h2 h4] at e;simp only [El,List.drop_drop];rw [e];simp;omega
  ·have h2:Ab s i≠34:=by simpa using h2
   refine Sa ?_;refine CW.no rfl (by simpa using h2) ?_;refine Sa ?_;refine Am (λh5=>?_) λh5=>?_
   ·have h5:Ab s i<32:=by simpa using h5
    refine Sa ?_;refine AM λw8 a4 hC=>?_;replace hC:Blk w8 C (Bm ⟨0,[],0,A3,0⟩) 115:=hC;replace hB:=hB.chg a4 (by simp;omega);have a3:Chg [b] w w8:=((hx.trans a1).mono (S':=[b]) (by simp)).fresh a4 (by simp;omega);refine Sa ?_;refine QW.body_ct Tryz.results197 rfl hC rfl rfl rfl rfl ⟨_,_,a,rfl,a3,hB,by omega,by omega,?_⟩;have e:=a5.2;rw [QD (i:=i) (by omega) h5] at e;simp only [El,List.drop_drop];rw [e];simp
   ·have h5:¬Ab s i<32:=by simpa using h5
    refine Sa ?_;refine Sa ?_;refine Cl λA w3 ac a7 hA=>?_;replace a0:=a0.ext a7;replace a1:=a1.trans a7;have ad:=a1.size;refine Sa ?_;refine LW.append rfl rfl rfl rfl rfl rfl a0 (by omega) hA rfl rfl rfl (by show (out.length+1)*2≤140737488355328;omega) rfl ?_;intro v' w4 a8 a2 ae;replace a1:=a1.step a8 (λk hk=>(a0.lt hk).1);refine Sa ?_;refine QW.again (i+1,out++[ch (Ab s i)],v') ⟨by show i+1≤_;omega,by show (out++_).length≤i+1;simp;omega,a1,EE aa.1 (by omega) a2,Et.go a5 (by omega) ?_⟩ BN (by show s.length - (i+1)<s.length - i;omega);rw [SD h1 h2 h5,show i+1 - i=1 by omega]
 ·have h1:i=s.length:=by simp at h1;omega
  refine Sa ?_;refine AM λw8 a4 hC=>?_;replace hC:Blk w8 C (Bm ⟨0,[],0,A3,0⟩) 115:=hC;replace hB:=hB.chg a4 (by simp;omega);have a3:Chg [b] w w8:=((hx.trans a1).mono (S':=[b]) (by simp)).fresh a4 (by simp;omega);refine Sa ?_;refine QW.body_ct Tryz.results197 rfl hC rfl rfl rfl rfl ⟨_,_,a,rfl,a3,hB,by omega,by omega,?_⟩;have e:=a5.2;rw [QB (i:=i) (by omega)] at e;simp only [El,List.drop_drop];rw [e];simp
def Xe (c:Int):Nat:=if Al c then 196 else if c=34 then 197 else if Gb c then 199 else 200
theorem WG (c:Int) (w:World):AA Tryz.prog 168 [.int .u8 c] w (λv w'=>v=.func (.func (Xe c)) #[] #[]∧Ae w w'):=by
 refine AL Tryz.func168 Tryz.ntmps168 ?_;refine Sa ?_;refine Ap rfl rfl (GJ _ _) ?_;rintro v w1 ⟨rfl,hx⟩;refine Sa ?_;refine Am (λh1=>?_) λh1=>?_
 ·refine Sa ?_;refine QW.body1 Tryz.results168 rfl ⟨?_,hx⟩;simp [Xe,h1]
 ·refine Sa ?_;refine Am (λh2=>?_) λh2=>?_
  ·have h2:c=34:=by simpa using h2
   refine Sa ?_;refine QW.body1 Tryz.results168 rfl ⟨?_,hx⟩;rw [Xe,h1,if_neg (by simp),if_pos h2]
  ·have h2:c≠34:=by simpa using h2
   refine Sa ?_;refine Ap rfl rfl (LN _ _) ?_;rintro v w2 ⟨rfl,a0⟩;replace hx:=hx.trans a0;refine Sa ?_;refine Am (λh3=>?_) λh3=>?_
   all_goals
    refine Sa ?_;refine QW.body1 Tryz.results168 rfl ⟨?_,hx⟩;simp [Xe,h1,h2,h3]
theorem Wf (s:List UInt8) (hs:s.length≤1000) (a:Nat) (ha:a<s.length) (b:Nat) (w0 w:World) (g:CU w0) (h0:Ae w0 w) (hb0:w0.heap.size≤b) (hB:Blk w b [Aj s,.int .i64 a] 196) :
  AA Tryz.prog (Xe (Ab s a)) [.pointer (some ⟨b,0,none⟩)] w (Uv s a b w (Cj (s.drop a))):=by
 have e:Ab (s.drop a) 0=Ab s a:=by rw [Dh];rfl
 unfold Xe Cj;rw [e];cases h1:Al (Ab s a)
 ·by_cases h2:Ab s a=34
  ·simp only [Bool.false_eq_true,if_false,h2,if_true];exact Um s hs a ha b w hB
  ·cases h3:Gb (Ab s a)
   ·simp only [Bool.false_eq_true,if_false,h2];exact Ug s hs a ha b w hB
   ·simp only [Bool.false_eq_true,if_false,h2,if_true];exact VA s hs a ha b w0 w g h0 hb0 hB
 ·simp only [if_true];exact R1 s hs a ha h1 b w0 w g h0 hb0 hB
def QT (s:List UInt8) (v:Value) (w:World) (lo:Nat):Prop:=
 if 300<s.length then v=.tuple #[.slice none 0 0,.int .i64 4]
 else match Hj s with
  | none=>v=.tuple #[.slice none 0 0,.int .i64 5]
  | some l=>∃sv,v=.tuple #[sv,.int .i64 0]∧Ax w lo 115 9 sv l.length (l.flatMap Bm)
theorem Lz {w:World} {lo:Nat} {e:TypeId} {v:Value} {out:List An} {t:An} (h:Ax w lo e 9 v (out.length+1) (out.flatMap Bm++Bm t)):Ax w lo e 9 v (out++[t]).length ((out++[t]).flatMap Bm):=by
 simpa using h
theorem VF (s:List UInt8) (hs:s.length≤9223372036854775807) (w:World) (g:CU w):AA Tryz.prog 123 [Aj s] w (λv w'=>QT s v w' w.heap.size∧Ae w w'):=by
 refine AL Tryz.func123 Tryz.ntmps123 ?_;refine Sa ?_;refine Am (λh1=>?_) λh1=>?_
 ·have h1:300<s.length:=by simp at h1;omega
  refine Sa ?_;refine QW.body2 Tryz.results123 rfl rfl ⟨?_,Chg.refl _ _⟩;rw [QT,if_pos h1]
 have h1:¬300<s.length:=by simp at h1;omega
 refine Sa ?_;refine CZ λb w1 az hx hB=>?_;replace hB:Blk w1 b [Aj s,.int .i64 ((0:Nat):Int)] 196:=hB;have al:b<w1.heap.size:=hB.lt;refine Sa ?_;refine CW.loop (ι:=Nat×List An×Value) (λk w'=>k.1≤s.length∧k.2.1.length≤k.1∧Ae w w'∧w1.heap.size≤w'.heap.size∧Blk w' b [Aj s,.int .i64 k.1] 196∧Ax w' w1.heap.size 115 9 k.2.2 k.2.1.length (k.2.1.flatMap Bm)∧DS s k.1 k.2.1) (λk=>[(0,Aj s),(4,.pointer (some ⟨b,0,none⟩)),(5,k.2.2)]) (λk=>s.length - k.1) (0,[],.slice none 0 0) ⟨by simp,by simp,hx,Nat.le_refl _,hB,Ax.nil _ _ _ _,DS.start _⟩ Bh ?_;rintro ⟨a,out,v⟩ w2 ⟨ha,ho,am,b0,ai,a1,aa⟩;clear hB;simp only at ha ho ai a1 aa;show CW _ _ _ _ _ [(0,Aj s),(4,.pointer (some ⟨b,0,none⟩)),(5,v)] _;have af:b∉Af v:=a1.old al;refine Sa ?_;refine Ap rfl rfl (ID Ff _ Ui s (by omega) a (by omega) b w2 ai) ?_;rintro u w3 ⟨rfl,ag,aj⟩;have ah:=am.step ag (by simp;omega);have b1:=ag.size;have a3:=a1.chg ag (λj hj hb=>af (by simp at hb;subst hb;exact hj));generalize hc:a+(Ah Ff (s.drop a)).length=c at aj;have b2:c≤s.length:=by
  have:=Ei Ff (s.drop a);simp at this;omega
 refine Sa ?_;refine Am (λh2=>?_) λh2=>?_
 ·have h2:c=s.length:=by simp at h2;omega
  refine Sa ?_;refine Cl λA w4 an a2 hA=>?_;replace hA:Blk w4 A (Bm ⟨0,[],0,A3,(s.length:Int)⟩) 115:=by rw [←h2];exact hA
  have ao:=a2.size;refine Sa ?_;refine LW.append rfl rfl rfl rfl rfl rfl (a3.ext a2) (by omega) hA rfl rfl rfl (by show (out.length+1)*81≤140737488355328;omega) rfl ?_;intro v' w5 a6 a0 _;refine Sa ?_;refine QW.body2 Tryz.results123 rfl rfl ⟨?_,(ah.trans a2).step a6 (λk hk=>?_)⟩
  ·rw [QT,if_neg h1,aa.end (by omega)];refine ⟨_,rfl,?_⟩;obtain ⟨hl,hh⟩:=Lz a0;refine ⟨hl,?_⟩;rcases hh with hh | ⟨gg,cap,sp,e1,e2,e3,e4,e5⟩
   ·exact .inl hh
   ·exact .inr ⟨gg,cap,sp,e1,e2,e3,e4,by have:=hx.size;omega⟩
  ·have:=(a1.lt hk).1;have:=hx.size;omega
 have h2:c<s.length:=by simp at h2;omega
 refine Sa ?_;refine Ap rfl rfl (WG _ _) ?_;rintro u w4 ⟨rfl,a2⟩;have ao:=a2.size;refine Sa ?_;refine LW.call (fs:=[]) (cs:=[]) rfl rfl rfl (Wf s (by omega) c h2 b w w4 g (ah.trans a2) (by omega) (aj.ext a2)) ?_;rintro u w5 ⟨t,ok,a',rfl,a6,ap,aq,b3,a7⟩;have ar:=(ah.trans a2).step a6 (by simp;omega);have b4:=a6.size;have a0:=(a3.ext a2).chg a6 (λj hj hb=>af (by simp at hb;subst hb;exact hj));refine Sa ?_;refine BP λC w6 b5 ab hC=>?_;have b6:=ab.size;refine Sa ?_;refine AM λw7 ac hC=>?_;replace hC:Blk w7 C (Bm t) 115:=hC;have ak:=(ar.trans ab).step ac (by simp;omega);have b7:=ac.size;have au:=(ap.ext ab).chg ac (by simp;omega);have a8:=(a0.ext ab).chg ac (λj hj hb=>by
  simp at hb;have:=(a0.lt hj).2;omega)
 refine Sa ?_
 cases ok with
 | false=>
  refine Sa ?_;refine QW.body2 Tryz.results123 rfl rfl ⟨?_,ak⟩
  rw [QT,if_neg h1,aa.bad hc h2 (by simpa using a7)]
 | true=>
  have a7:Cj (s.drop c)=some (t,a' - c):=by simpa using a7
  have av:=ED (by intro hn;have:=congrArg List.length hn;simp at this;omega) a7;refine Sa ?_;refine BS λw8 ad hC=>?_;replace hC:Blk w8 C (Bm {t with at_:=(c:Int)}) 115:=hC;have aw:=ak.step ad (by simp;omega);have b8:=ad.size;have ax:=au.chg ad (by simp;omega);have a9:=a8.chg ad (λj hj hb=>by
   simp at hb;have:=(a0.lt hj).2;omega)
  refine Sa ?_;refine Cl λA w9 an ae hA=>?_;replace hA:Blk w9 A (Bm {t with at_:=(c:Int)}) 115:=hA;have b9:=ae.size;refine Sa ?_;refine LW.append rfl rfl rfl rfl rfl rfl (a9.ext ae) (by omega) hA rfl rfl rfl (by show (out.length+1)*81≤140737488355328;omega) rfl ?_;intro v' ba a4 a5 _;have ay:=a4.size;refine Sa ?_;refine QW.again (a',out++[{t with at_:=(c:Int)}],v') ⟨aq,by simp;omega,?_,by omega,?_,Lz a5,?_⟩ Bh (by show s.length - a'<s.length - a;omega)
  ·refine (aw.trans ae).step a4 (λk hk=>?_);have:=(a1.lt hk).1;omega
  ·exact (ax.ext ae).chg a4 af
  ·have:=aa.go hc h2 a7
   rwa [show c+(a' - c)=a' by omega] at this
end Go.Proofs.YtefaigjfkddelaaGreatDoor
