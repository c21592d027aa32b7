/-
  Joined by program out of the texts Cm Addr Ref LexL.
-/
import Derived.Test.YtefaigjfkddelaaGreatDoorTab
import Derived.Test.YtefaigjfkddelaaGreatDoorCkE
import Derived.Test.YtefaigjfkddelaaGreatDoorShelf
import Derived.ChangeAgain
import Derived.Lib.ItoaNum
import Derived.Lib.Strings
import Derived.Lib.IndexMore
import Derived.Lib.AtoiAll
import Derived.Lib.ItoaLen
import Derived.Lib.AtoiAllCases
namespace Go.Proofs.YtefaigjfkddelaaGreatDoor
open Go Go.E Go.RowKit
structure Cm (w:World):Prop where
 shaped:w.ShapedOpen Tryz.prog
 pow : Lib.TabIs Tryz.prog w "internal/strconv.uint64pow10" .u64 Lib.pow10Tab
 syn:∃t v,w.cell? ⟨0,0,none⟩=some (.iface t v)
 rng:∃t v,w.cell? ⟨1,0,none⟩=some (.iface t v)
theorem Aw {w w':World} (h:Ag w w') {a:Addr} {v:Value} (hc:w.cell? a=some v):w'.cell? a=some v:=by
 have a0:=World.block_lt_of_cell? w a hc;rw [(Ag.toBelow h).cell a0];exact hc
theorem UI {w w':World} (h:Ag w w') {n:String} {cs:Array Value} (hv:w.var? Tryz.prog n=some cs):w'.var? Tryz.prog n=some cs:=by
 unfold World.var? at hv ⊢
 cases hg:Tryz.prog.globalNamed n with
 | none=>simp [hg] at hv
 | some g=>
  simp only [hg,Option.bind_some] at hv ⊢;have a0:g<w.heap.size:=by
   rcases Nat.lt_or_ge g w.heap.size with hl | hl
   ·exact hl
   ·rw [Array.getElem?_eq_none hl] at hv;cases hv
  rw [(Ag.toBelow h).block g a0];exact hv
theorem Cm.ext {w w':World} (g:Cm w) (h:Ag w w'):Cm w':=
 ⟨World.ShapedOpen.keptBut g.shaped ((Ag.toBelow h).frame (λ_=>False)) (λ_ hf=>hf.elim),UI h g.pow,
  g.syn.elim λt ht=>ht.elim λv hv=>⟨t,v,Aw h hv⟩,g.rng.elim λt ht=>ht.elim λv hv=>⟨t,v,Aw h hv⟩⟩
theorem Ag.drewN (w:World) (k:Nat):Ag w (w.drewN k):=⟨rfl,rfl,rfl,Nat.le_refl _,λ_ _ _=>rfl⟩
theorem Ag.grow (w:World) (os:Array Obj):Ag w (Go.Sort.grow w os):=
 ⟨rfl,rfl,rfl,by simp [Go.Sort.grow],λk hk _=>by simp [Go.Sort.grow,Array.getElem?_append_left hk]⟩
theorem Ag.bytesWorld (w:World) (e:TypeId) (s:ByteArray):Ag w (Lib.bytesWorld w e s):=by
 refine ⟨?_,?_,?_,?_,λk hk _=>?_⟩
 ·unfold Lib.bytesWorld World.freeze;split<;>rfl
 ·unfold Lib.bytesWorld World.freeze;split<;>rfl
 ·unfold Lib.bytesWorld World.freeze;split<;>rfl
 ·unfold Lib.bytesWorld World.freeze;simp
 ·unfold Lib.bytesWorld World.freeze;rw [if_neg (by omega)];show (Array.modify _ _ _)[k]?=_;rw [Array.getElem?_modify,if_neg (by simp;omega)];exact Below.heap_alloc _ _ _ hk
theorem Ez {f:FuncId} {args:List Value} {w:World} {R:Ending→World→Prop} {Φ:Value→World→Prop} (hc:BF Tryz.prog f=true) (h:Calls Tryz.prog f ⟨args⟩ w R) (hm:∀e w',R e w'→EK Φ e w'):AL Tryz.prog f args w Φ:=⟨hc,h.mono hm⟩
theorem J3 (n:Int) (h0:-9223372036854775808≤n) (h1:n≤9223372036854775807) (w:World) (g:Cm w):AL Tryz.prog 88 [.int .i64 n] w (λv w'=>v=Ap (Lib.itoa n)∧Ag w w'):=
 Ez (by kernel_rfl) (Tryz.strconv_Itoa n h0 h1 w g.pow) λe w' ⟨he,k,os,hw⟩=>⟨_,he,rfl,by subst hw;exact (Ag.drewN w k).trans (Ag.grow _ _)⟩
def GI (l:List UInt8) (v:Value):Prop:=match Lib.atoiAll l with
 | .ok n=>v=.tuple #[.int .i64 n,.nilIface]
 | _=>∃z t x,v=.tuple #[.int .i64 z,.iface t x]
theorem FK (l:List UInt8) (hl:l.length≤1000000) (w:World) (g:Cm w):AL Tryz.prog 128 [Ap l] w (λv w'=>GI l v∧Ag w w'):=by
 have hs:(⟨⟨l⟩⟩:ByteArray).size=l.length:=rfl
 cases h:Lib.atoiAll l with
 | ok n=>
  refine Ez (by kernel_rfl) (Tryz.strconv_Atoi_ok ⟨⟨l⟩⟩ (by rw [hs];omega) n h w) λe w' ⟨he,hw⟩=>⟨_,he,by unfold GI;rw [h],?_⟩;rcases hw with rfl | ⟨t,rfl⟩
  ·exact Chg.refl _ _
  ·exact Ag.bytesWorld ..
 | range=>
  obtain ⟨t,v,hv⟩:=g.rng
  exact Ez (by kernel_rfl) (Tryz.strconv_Atoi_range ⟨⟨l⟩⟩ (by rw [hs];omega) h _ w hv (Or.inr ⟨t,v,rfl⟩)) λe w' ⟨N,he,_,_,hb⟩=>⟨_,he,by unfold GI;rw [h];exact ⟨_,_,_,rfl⟩,Ag.of_below hb⟩
 | _=>
  obtain ⟨t,v,hv⟩:=g.syn;exact Ez (by kernel_rfl) (Any.strconv_Atoi_syntax Tryz.laysAtoi ⟨⟨l⟩⟩ (by rw [hs];omega) h _ w hv (Or.inr ⟨t,v,rfl⟩)) λe w' ⟨N,he,_,_,hb⟩=>⟨_,he,by unfold GI;rw [h];exact ⟨_,_,_,rfl⟩,Ag.of_below hb⟩
theorem KR (s p:List UInt8) (w:World):AL Tryz.prog 249 [Ap s,Ap p] w (λv w'=>v=.tuple #[Ap (Lib.trimPrefix s p),.bool (Lib.hasPrefix s p)]∧Ag w w'):=
 Ez (by kernel_rfl) (Tryz.strings_CutPrefix ⟨⟨s⟩⟩ ⟨⟨p⟩⟩ w) λe w' ⟨he,hw⟩=>⟨_,he,rfl,by subst hw;exact Chg.refl _ _⟩
theorem GK (s p:List UInt8) (w:World):AL Tryz.prog 222 [Ap s,Ap p] w (λv w'=>v=.bool (Lib.hasPrefix s p)∧Ag w w'):=
 Ez (by kernel_rfl) (Tryz.strings_HasPrefix ⟨⟨s⟩⟩ ⟨⟨p⟩⟩ w) λe w' ⟨he,hw⟩=>⟨_,he,rfl,by subst hw;exact Chg.refl _ _⟩
theorem J4 (s o n:List UInt8) (hs:s.length≤1000000) (ho:1≤o.length) (hn:n.length≤1000) (w:World) (g:Cm w):AL Tryz.prog 184 [Ap s,Ap o,Ap n] w (λv w'=>v=Ap (Lib.replaceAll s o n)∧Ag w w'):=by
 obtain ⟨m,hm⟩:=(Tryz.laysM143).s1_3 w g.shaped;have hc:Lib.countB ⟨⟨s⟩⟩ ⟨⟨o⟩⟩≤s.length+1:=Lib.count_le s o;have hz:Lib.countB ⟨⟨s⟩⟩ ⟨⟨o⟩⟩*n.length≤1000001*1000:=Nat.mul_le_mul (by omega) hn;exact Ez (by kernel_rfl) (Tryz.strings_ReplaceAll ⟨⟨s⟩⟩ ⟨⟨o⟩⟩ ⟨⟨n⟩⟩ m w (show s.length<_ by omega) hm ho (show s.length+_*n.length≤_ by omega)) λe w' ⟨he,hw⟩=>⟨_,he,rfl,Ag.of_below hw⟩
theorem TW (s p:List UInt8) (hs:s.length≤1000000) (w:World) (g:Cm w):AL Tryz.prog 232 [Ap s,Ap p] w (λv w'=>v=.tuple #[Ap (Lib.cut s p).1,Ap (Lib.cut s p).2.1,.bool (Lib.cut s p).2.2]∧Ag w w'):=
 Ez (by kernel_rfl) (Tryz.strings_Cut_shaped ⟨⟨s⟩⟩ ⟨⟨p⟩⟩ w g.shaped (show s.length<_ by omega)) λe w' ⟨he,k,hw⟩=>⟨_,he,rfl,by subst hw;exact Ag.drewN w k⟩
open Go Go.E
def B5 (c:Int):Bool:=decide (65≤c)&&decide (c≤90)
def Av (c:Int):Bool:=decide (48≤c)&&decide (c≤57)
def Jh (c:Int):Bool:=B5 c||(decide (97≤c)&&decide (c≤122))
def Sb (c:Int):Bool:=Jh c||Av c
def Dm (l:List UInt8):Bool:=decide (l≠[])&&decide (l.length≤12)&&Jh (Ae l 0)&&decide (∀j,j<l.length→Sb (Ae l j)=true)
theorem Pd {l:List UInt8} (h:12<l.length):Dm l=false:=by simp [Dm];intros;omega
theorem NF {l:List UInt8} (h:Jh (Ae l 0)=false):Dm l=false:=by simp [Dm,h]
theorem Tc {l:List UInt8} {k:Nat} (hk:k<l.length) (h:Sb (Ae l k)=false):Dm l=false:=by
 simp only [Dm,Bool.and_eq_false_iff,decide_eq_false_iff_not];exact Or.inr λhh=>by rw [hh k hk] at h;cases h
theorem Pe {l:List UInt8} (h0:l≠[]) (h1:l.length≤12) (h2:Jh (Ae l 0)=true) (h3:∀j,j<l.length→Sb (Ae l j)=true):Dm l=true:=by
 simp [Dm,h0,h1,h2];exact h3
def Fa (n:Int):List UInt8:=
 if n<0∨701<n then [] else if n<26 then [ch (65+n)] else [ch (65+n / 26 - 1),ch (65+n % 26)]
def Bt (l:List UInt8):Option Int:=
 match l with
 | [_]=>if B5 (Ae l 0) then some (Ae l 0 - 65) else none
 | [_,_]=>if B5 (Ae l 0)&&B5 (Ae l 1) then some ((Ae l 0 - 65+1)*26+(Ae l 1 - 65)) else none
 | _=>none
def DR (l:List UInt8):Value:=match Bt l with
 | some n=>.tuple #[.int .i64 n,.bool true]
 | none=>.tuple #[.int .i64 0,.bool false]
structure Cn where
 sheet:List UInt8
 col:Int
 row:Int
 ac:Bool
 ar:Bool
deriving DecidableEq
def Cr (x:Cn):List Value:=[Ap x.sheet,.int .i64 x.col,.int .i64 x.row,.bool x.ac,.bool x.ar]
def K8 (x:Cn):Value:=.agg ⟨[Ap x.sheet,.int .i64 x.col,.int .i64 x.row,.bool x.ac,.bool x.ar]⟩
def AV (x:Cn):Bool:=(decide (x.sheet=[])||Dm x.sheet)&&decide (0≤x.col)&&decide (x.col≤701)&&decide (0≤x.row)&&decide (x.row≤998)
def CN (b:Bool):List UInt8:=if b then [36] else []
def Bp (x:Cn):List UInt8:=(if x.sheet=[] then [] else x.sheet++[33])++(CN x.ac++Fa x.col++CN x.ar++Lib.itoa (x.row+1))
def CG (x:Cn):List UInt8:=if AV x then Bp x else []
def Al (p:Int→Bool) (s:List UInt8):List UInt8:=s.takeWhile λc=>p c.toNat
def FF (p:Int→Bool) (s:List UInt8):List UInt8:=s.dropWhile λc=>p c.toNat
theorem Jy (p:Int→Bool):∀(s:List UInt8) (k:Nat),k≤s.length→(∀j,j<k→p (Ae s j)=true)→(k=s.length∨p (Ae s k)=false)→s.take k=Al p s∧s.drop k=FF p s
 | [],k,hk,_,_=>by simp [Al,FF]
 | c::s,0,_,_,h=>by
  rcases h with h | h
  ·simp at h
  ·have hc:p (c.toNat:Int)=false:=h
   simp [Al,FF,hc]
 | c::s,k+1,hk,hall,h=>by
  have hc:p (c.toNat:Int)=true:=hall 0 (by omega);have ih:=Jy p s k (by simpa using hk) (λj hj=>hall (j+1) (by omega)) (by
   rcases h with h | h
   ·exact Or.inl (by simpa using h)
   ·exact Or.inr h)
  simp [Al,FF,hc] at ih ⊢;exact ih
theorem Ni (s:List UInt8) (k:Nat):cut s 0 k=s.take k:=by simp [cut]
theorem Fb (s:List UInt8) (k:Nat):cut s k s.length=s.drop k:=by
 unfold cut;exact List.take_of_length_le (by simp)
def FP (s:List UInt8):List UInt8:=if (Lib.cut s [33]).2.2 then (Lib.cut s [33]).1 else []
def FB (s:List UInt8):List UInt8:=if (Lib.cut s [33]).2.2 then (Lib.cut s [33]).2.1 else s
def EY (s:List UInt8):List UInt8:=Lib.trimPrefix (FB s) [36]
def IF (s:List UInt8):List UInt8:=FF B5 (EY s)
def JG (s:List UInt8):List UInt8:=Lib.trimPrefix (IF s) [36]
theorem Ic (p:Int→Bool) (s:List UInt8):(Al p s).length≤s.length:=by
 unfold Al;exact (List.takeWhile_sublist _).length_le
theorem MA (p:Int→Bool) (s:List UInt8):(FF p s).length≤s.length:=by
 unfold FF;exact (List.dropWhile_sublist _).length_le
theorem EH (s p:List UInt8):(Lib.trimPrefix s p).length≤s.length:=by
 unfold Lib.trimPrefix;split<;>simp
theorem S4 (s p:List UInt8):(Lib.cut s p).1.length≤s.length:=by
 unfold Lib.cut;split<;>simp;omega
theorem S5 (s p:List UInt8):(Lib.cut s p).2.1.length≤s.length:=by
 unfold Lib.cut;split<;>simp
theorem IH (n:Int):(Fa n).length≤2:=by
 unfold Fa;split
 ·simp
 ·split<;>simp
theorem Ed (b:Bool):(CN b).length≤1:=by cases b<;>simp [CN]
theorem DL (c:Int) (w:World):AL Tryz.prog 122 [.int .u8 c] w (λv w'=>v=.bool (B5 c)∧Ag w w'):=by
 refine Br Tryz.func122 Tryz.ntmps122 ?_;refine Sa ?_;refine DU (λh1=>?_) λh1=>?_
 all_goals
  refine Sa ?_;refine QW.body1 Tryz.results122 rfl ⟨?_,Chg.refl _ _⟩;simp [B5,h1]
theorem L4 (c:Int) (w:World):AL Tryz.prog 85 [.int .u8 c] w (λv w'=>v=.bool (Av c)∧Ag w w'):=by
 refine Br Tryz.func85 Tryz.ntmps85 ?_;refine Sa ?_;refine DU (λh1=>?_) λh1=>?_
 all_goals
  refine Sa ?_;refine QW.body1 Tryz.results85 rfl ⟨?_,Chg.refl _ _⟩;simp [Av,h1]
theorem Kd (c:Int) (w:World):AL Tryz.prog 84 [.int .u8 c] w (λv w'=>v=.bool (Jh c)∧Ag w w'):=by
 refine Br Tryz.func84 Tryz.ntmps84 ?_;refine Sa ?_;refine AE rfl rfl (DL _ _) ?_;rintro v w' ⟨rfl,hx⟩;refine Sa ?_;refine DU (λh1=>?_) λh1=>?_
 ·refine Sa ?_;refine QW.body1 Tryz.results84 rfl ⟨?_,hx⟩;simp [Jh,h1]
 ·refine Sa ?_;refine DU (λh2=>?_) λh2=>?_
  all_goals
   refine Sa ?_;refine QW.body1 Tryz.results84 rfl ⟨?_,hx⟩;simp [Jh,h1,h2]
theorem MM (s:List UInt8) (w:World) (hs:s.length≤9223372036854775807):AL Tryz.prog 60 [Ap s] w (λv w'=>v=.bool (Dm s)∧Ag w w'):=by
 refine Br Tryz.func60 Tryz.ntmps60 ?_;refine Sa ?_;refine DU (λh0=>?_) λh0=>?_
 ·have h0:s=[]:=by simpa using h0
  subst h0;refine Sa ?_;refine QW.body1 Tryz.results60 rfl ⟨rfl,Chg.refl _ _⟩
 have h0:s≠[]:=by simpa using h0
 have hp:0<s.length:=List.length_pos_iff.2 h0;refine Sa ?_;refine DU (λh1=>?_) λh1=>?_
 ·have h1:12<s.length:=by simp at h1;omega
  refine Sa ?_;refine QW.body1 Tryz.results60 rfl ⟨by rw [Pd h1],Chg.refl _ _⟩
 have h1:s.length≤12:=by simp at h1;omega
 refine Sa ?_;refine AE rfl rfl (Kd _ _) ?_;rintro v w1 ⟨rfl,hx⟩;refine Sa ?_;refine A4 (λh2=>?_) λh2=>?_
 ·refine Sa ?_;refine QW.body1 Tryz.results60 rfl ⟨?_,hx⟩;rw [NF]
  simpa using h2
 have h2:Jh (Ae s 0)=true:=by simpa using h2
 refine Sa ?_;refine CW.loop (ι:=Nat) (λk w'=>k≤s.length∧Ag w w'∧∀j,j<k→Sb (Ae s j)=true) (λk=>[(0,Ap s),(18,.int .i64 s.length),(19,.int .i64 k)]) (λk=>s.length - k) 0 ⟨by omega,hx,by omega⟩ C0 ?_;rintro k w2 ⟨hk,a1,a0⟩;refine Sa ?_;refine A4 (λh3=>?_) λh3=>?_
 ·have h3:k<s.length:=by simpa using h3
  refine Sa ?_;refine AE rfl rfl (Kd _ _) ?_;rintro v w3 ⟨rfl,a2⟩;refine Sa ?_;refine DU (λh4=>?_) λh4=>?_
  ·refine Sa ?_;refine AE rfl rfl (L4 _ _) ?_;rintro v w4 ⟨rfl,a4⟩;refine Sa ?_;refine A4 (λh5=>?_) λh5=>?_
   ·refine Sa ?_;refine QW.body1 Tryz.results60 rfl ⟨?_,(a1.trans a2).trans a4⟩;rw [Tc h3];simp at h4 h5;simp [Sb,h4,h5]
   ·refine Sa ?_;refine QW.again (k+1) ⟨by omega,(a1.trans a2).trans a4,?_⟩ C0 (by omega);intro j hj;by_cases a3:j=k
    ·subst a3;simp at h5;simp [Sb,h5]
    ·exact a0 j (by omega)
  ·refine Sa ?_;refine QW.again (k+1) ⟨by omega,a1.trans a2,?_⟩ C0 (by omega);intro j hj;by_cases a3:j=k
   ·subst a3;simp at h4;simp [Sb,h4]
   ·exact a0 j (by omega)
 ·have h3:k=s.length:=by simp at h3;omega
  subst h3;refine Sa ?_;refine QW.body1 Tryz.results60 rfl ⟨?_,a1⟩;rw [Pe h0 h1 h2 a0]
theorem N8 (b:Bool) (w:World):AL Tryz.prog 218 [.bool b] w (λv w'=>v=Ap (CN b)∧Ag w w'):=by
 cases b
 all_goals
  refine Br Tryz.func218 Tryz.ntmps218 ?_;refine Sa ?_;refine QW.body1 Tryz.results218 rfl ⟨rfl,Chg.refl _ _⟩
theorem TV (n:Int) (h0:-9223372036854775808≤n) (h1:n≤9223372036854775807) (w:World):AL Tryz.prog 219 [.int .i64 n] w (λv w'=>v=Ap (Fa n)∧Ag w w'):=by
 refine Br Tryz.func219 Tryz.ntmps219 ?_;refine Sa ?_;refine DU (λh2=>?_) λh2=>?_
 ·have h2:n<0:=by simpa using h2
  refine Sa ?_;refine QW.body1 Tryz.results219 rfl ⟨?_,Chg.refl _ _⟩;rw [Fa,if_pos (by omega)]
 have h2:0≤n:=by simpa using h2
 refine Sa ?_;refine A4 (λh3=>?_) λh3=>?_
 ·have h3:701<n:=by simpa using h3
  refine Sa ?_;refine QW.body1 Tryz.results219 rfl ⟨?_,Chg.refl _ _⟩;rw [Fa,if_pos (by omega)]
 have h3:n≤701:=by simpa using h3
 refine Sa ?_;refine A4 (λh4=>?_) λh4=>?_
 ·have h4:n<26:=by simpa using h4
  refine Sa ?_;refine QW.body1 Tryz.results219 rfl ⟨?_,Chg.refl _ _⟩;rw [Fa,if_neg (by omega),if_pos h4];rfl
 ·have h4:26≤n:=by simpa using h4
  refine Sa ?_;refine QW.body1 Tryz.results219 rfl ⟨?_,Chg.refl _ _⟩;rw [Fa,if_neg (by omega),if_neg (by omega)];rfl
theorem Jn (x:Cn) (hs:x.sheet.length≤9223372036854775807) (w:World):AL Tryz.prog 181 [K8 x] w (λv w'=>v=.bool (AV x)∧Ag w w'):=by
 obtain ⟨sh,c,r,ac,ar⟩:=x;simp only [K8];refine Br Tryz.func181 Tryz.ntmps181 ?_;refine Sa ?_;refine Ei λb w1 hb hx hB=>?_;refine Sa ?_;refine DU (λh1=>?_) λh1=>?_
 ·refine Sa ?_;refine DU (λh2=>?_) λh2=>?_
  ·refine Sa ?_;refine DU (λh3=>?_) λh3=>?_
   ·refine Sa ?_;refine DU (λh4=>?_) λh4=>?_
    ·refine Sa ?_;refine QW.body1 Tryz.results181 rfl ⟨?_,hx⟩;simp [AV, *]
    ·refine Sa ?_;refine QW.body1 Tryz.results181 rfl ⟨?_,hx⟩;simp [AV, *]
   ·refine Sa ?_;refine QW.body1 Tryz.results181 rfl ⟨?_,hx⟩;simp [AV, *]
  ·refine Sa ?_;refine QW.body1 Tryz.results181 rfl ⟨?_,hx⟩;simp [AV, *]
 ·refine Sa ?_;refine AE rfl rfl (MM _ _ hs) ?_;rintro v w2 ⟨rfl,a0⟩;replace hB:=hB.ext a0;replace hx:=hx.trans a0;refine Sa ?_;refine DU (λh0=>?_) λh0=>?_
  ·refine Sa ?_;refine DU (λh2=>?_) λh2=>?_
   ·refine Sa ?_;refine DU (λh3=>?_) λh3=>?_
    ·refine Sa ?_;refine DU (λh4=>?_) λh4=>?_
     ·refine Sa ?_;refine QW.body1 Tryz.results181 rfl ⟨?_,hx⟩;simp [AV, *]
     ·refine Sa ?_;refine QW.body1 Tryz.results181 rfl ⟨?_,hx⟩;simp [AV, *]
    ·refine Sa ?_;refine QW.body1 Tryz.results181 rfl ⟨?_,hx⟩;simp [AV, *]
   ·refine Sa ?_;refine QW.body1 Tryz.results181 rfl ⟨?_,hx⟩;simp [AV, *]
  ·refine Sa ?_;refine QW.body1 Tryz.results181 rfl ⟨?_,hx⟩;simp [AV, *]
theorem MO (s:List UInt8) (hs:s.length≤1000000) (w:World):AL Tryz.prog 235 [Ap s] w (λv w'=>v=DR s∧Ag w w'):=by
 match s,hs with
 | [],_=>
  refine Br Tryz.func235 Tryz.ntmps235 ?_;refine Sa ?_
  refine QW.body2 Tryz.results235 rfl rfl ⟨rfl,Chg.refl _ _⟩
 | a::b::c::l,hs=>
  simp at hs;refine Br Tryz.func235 Tryz.ntmps235 ?_;refine Sa ?_;refine A4 (λh=>?_) λh=>?_
  ·refine Sa ?_;refine QW.body2 Tryz.results235 rfl rfl ⟨rfl,Chg.refl _ _⟩
  ·simp at h;omega
 | [a],_=>
  refine Br Tryz.func235 Tryz.ntmps235 ?_;refine Sa ?_;refine CW.rounds 2 ?_;refine Sa ?_;refine AE rfl rfl (DL _ _) ?_;rintro v w1 ⟨rfl,hx⟩;refine Sa ?_;refine A4 (λh1=>?_) λh1=>?_
  ·refine Sa ?_;refine QW.body2 Tryz.results235 rfl rfl ⟨?_,hx⟩;have h1:B5 (Ae [a] 0)=false:=by simpa using h1
   simp [DR,Bt,h1]
  have h1:B5 (Ae [a] 0)=true:=by simpa using h1
  have hb:=Fx [a] 0;have a1:65≤Ae [a] 0∧Ae [a] 0≤90:=by simpa [B5] using h1
  have e0:Ae [a] (0:Int).toNat=Ae [a] 0:=rfl;refine Sa ?_;refine QW.body2 Tryz.results235 rfl rfl ⟨?_,hx⟩
  simp [DR,Bt,h1]
 | [a,b],_=>
  refine Br Tryz.func235 Tryz.ntmps235 ?_;refine Sa ?_;refine CW.rounds 3 ?_;refine Sa ?_;refine AE rfl rfl (DL _ _) ?_;rintro v w1 ⟨rfl,hx⟩;refine Sa ?_;refine A4 (λh1=>?_) λh1=>?_
  ·refine Sa ?_;refine QW.body2 Tryz.results235 rfl rfl ⟨?_,hx⟩;have h1:B5 (Ae [a,b] 0)=false:=by simpa using h1
   simp [DR,Bt,h1]
  have h1:B5 (Ae [a,b] 0)=true:=by simpa using h1
  have hb:=Fx [a,b] 0;have a1:65≤Ae [a,b] 0∧Ae [a,b] 0≤90:=by simpa [B5] using h1
  have e0:Ae [a,b] (0:Int).toNat=Ae [a,b] 0:=rfl;refine Sa ?_;refine AE rfl rfl (DL _ _) ?_;rintro v w2 ⟨rfl,a0⟩;refine Sa ?_;refine A4 (λh3=>?_) λh3=>?_
  ·refine Sa ?_;refine QW.body2 Tryz.results235 rfl rfl ⟨?_,hx.trans a0⟩;have h3:B5 (Ae [a,b] 1)=false:=by simpa using h3
   simp [DR,Bt,h1,h3]
  have h3:B5 (Ae [a,b] 1)=true:=by simpa using h3
  have hc:=Fx [a,b] 1;have a2:65≤Ae [a,b] 1∧Ae [a,b] 1≤90:=by simpa [B5] using h3
  have e1:Ae [a,b] (0+1:Int).toNat=Ae [a,b] 1:=rfl;refine Sa ?_;refine QW.body2 Tryz.results235 rfl rfl ⟨?_,hx.trans a0⟩;simp [DR,Bt,h1,h3]
theorem H0 (x:Cn) (hs:x.sheet.length≤1000) (w:World) (g:Cm w) :
  AL Tryz.prog 185 [K8 x] w (λv w'=>v=Ap (CG x)∧Ag w w'):=by
 obtain ⟨sh,c,r,ac,ar⟩:=x;simp only at hs;simp only [K8];refine Br Tryz.func185 Tryz.ntmps185 ?_;refine Sa ?_;refine Ei λb w1 hb hx hB=>?_;refine Sa ?_;refine AE rfl rfl (Jn ⟨sh,c,r,ac,ar⟩ (by simp only;omega) w1) ?_;rintro v w2 ⟨rfl,a0⟩;replace hB:=hB.ext a0;replace hx:=hx.trans a0;refine Sa ?_;refine A4 (λh1=>?_) λh1=>?_
 ·refine Sa ?_;refine QW.body1 Tryz.results185 rfl ⟨?_,hx⟩;have h1:AV ⟨sh,c,r,ac,ar⟩=false:=by simpa using h1
  simp [CG,h1]
 have h1:AV ⟨sh,c,r,ac,ar⟩=true:=by simpa using h1
 have a2:=Ed ac;have a3:=Ed ar;have a4:=IH c;have hm:0≤c∧c≤701∧0≤r∧r≤998:=by
  simp only [AV,Bool.and_eq_true,decide_eq_true_eq] at h1;exact ⟨h1.1.1.1.2,h1.1.1.2,h1.1.2,h1.2⟩
 have a5:=Lib.itoa_length_le (r+1) (by omega) (by omega);refine Sa ?_;refine Lr ?_;refine Sq ?_;refine QL.call0 rfl rfl (λw3 _=>N8 ac w3) ?_;refine Sq ?_;refine QL.call0 rfl rfl (λw3 _=>TV c (by omega) (by omega) w3) ?_;refine Sq ?_;refine QL.call0 rfl rfl (λw3 _=>N8 ar w3) ?_;refine Sq ?_;refine QL.call0 rfl rfl (λw3 h3=>J3 (r+1) (by omega) (by omega) w3 (g.ext (hx.trans h3))) ?_;refine Sq ?_;refine QL.nil λw3 a1=>?_;replace hB:=hB.ext a1;replace hx:=hx.trans a1;refine Sa ?_;refine A4 (λh2=>?_) λh2=>?_
 ·have h2:sh≠[]:=by simpa using h2
  refine Sa ?_;refine QW.body1 Tryz.results185 rfl ⟨?_,hx⟩;rw [CG,if_pos h1];simp [Bp,h2]
 ·have h2:sh=[]:=by simpa using h2
  refine Sa ?_;refine QW.body1 Tryz.results185 rfl ⟨?_,hx⟩;rw [CG,if_pos h1];simp [Bp,h2]
theorem Oq (s:List UInt8) (b:Nat) (w:World) (hB:Blk w b [Ap s] 253):AL Tryz.prog 233 [.pointer (some ⟨b,0,none⟩)] w
  (λv w'=>v=.bool (Lib.hasPrefix s [36])∧Chg [b] w w'∧Blk w' b [Ap (Lib.trimPrefix s [36])] 253):=by
 refine Br Tryz.func233 Tryz.ntmps233 ?_;refine Sa ?_;refine AE rfl rfl (KR s [36] w) ?_;rintro v w1 ⟨rfl,hx⟩;replace hB:=hB.ext hx;refine Sa ?_;refine CH λw2 hc a0=>?_;refine Sa ?_;exact QW.body1 Tryz.results233 rfl ⟨rfl,hx.chg.same hc,a0⟩
theorem Mc (p:Int→Bool) (f:Nat) (hp:∀(c:Int) (w:World),AL Tryz.prog f [.int .u8 c] w (λv w'=>v=.bool (p c)∧Ag w w')) (s:List UInt8) (hs:s.length≤1000000) (b:Nat) (w:World) (hB:Blk w b [Ap s] 253) :
  AL Tryz.prog 234 [.pointer (some ⟨b,0,none⟩),.func (.func f) #[] #[]] w
  (λv w'=>v=Ap (Al p s)∧Chg [b] w w'∧Blk w' b [Ap (FF p s)] 253):=by
 refine Br Tryz.func234 Tryz.ntmps234 ?_;refine Sa ?_;refine CW.loop (ι:=Nat) (λk w'=>k≤s.length∧Ag w w'∧∀j,j<k→p (Ae s j)=true) (λk=>[(0,.pointer (some ⟨b,0,none⟩)),(1,.func (.func f) #[] #[]),(5,.int .i64 k)]) (λk=>s.length - k) 0 ⟨by omega,Chg.refl _ _,by omega⟩ C0 ?_;rintro k w1 ⟨hk,hx,a0⟩;replace hB:=hB.ext hx;refine Sa ?_;refine DU (λh1=>?_) λh1=>?_
 ·have h1:k<s.length:=by simpa using h1
  refine Sa ?_;refine LW.call (fs:=[]) (cs:=[]) rfl rfl rfl (hp _ _) ?_;rintro v w2 ⟨rfl,a3⟩;replace hB:=hB.ext a3;replace hx:=hx.trans a3;refine Sa ?_;refine A4 (λh2=>?_) λh2=>?_
  ·have h2:p (Ae s k)=true:=h2;refine Sa ?_;refine QW.again (k+1) ⟨by omega,hx,?_⟩ C0 (by omega);intro j hj;by_cases a4:j=k
   ·subst a4;exact h2
   ·exact a0 j (by omega)
  ·have h2:p (Ae s k)=false:=h2;have a1:=Jy p s k hk a0 (Or.inr h2);refine Sa ?_;refine LW.slice_str (i:=0) (j:=k) rfl rfl rfl rfl ⟨_,_,rfl,rfl⟩ (by omega) hk rfl ?_;refine Sa ?_;refine LW.slice_str (i:=k) (j:=s.length) rfl rfl rfl ⟨_,_,rfl,rfl⟩ rfl hk (by omega) rfl ?_;refine Sa ?_;refine CH λw3 hc a2=>?_;refine Sa ?_;refine QW.body1 Tryz.results234 rfl ⟨?_,hx.chg.same hc,?_⟩
   ·rw [Ni,a1.1]
   ·rw [←a1.2,←Fb];exact a2
 ·have h1:k=s.length:=by simp at h1;omega
  have a1:=Jy p s k hk a0 (Or.inl h1);refine Sa ?_;refine LW.slice_str (i:=0) (j:=k) rfl rfl rfl rfl ⟨_,_,rfl,rfl⟩ (by omega) hk rfl ?_;refine Sa ?_;refine LW.slice_str (i:=k) (j:=s.length) rfl rfl rfl ⟨_,_,rfl,rfl⟩ rfl hk (by omega) rfl ?_;refine Sa ?_;refine CH λw3 hc a2=>?_;refine Sa ?_;refine QW.body1 Tryz.results234 rfl ⟨?_,hx.chg.same hc,?_⟩
  ·rw [Ni,a1.1]
  ·rw [←a1.2,←Fb];exact a2
def KB (s:List UInt8):Option Int:=match Lib.atoiAll (Al Av (JG s)) with
 | .ok n=>some n
 | _=>none
def Dj (s:List UInt8):Cn:=⟨FP s,(Bt (Al B5 (EY s))).getD 0,IntKind.i64.wrap ((KB s).getD 0 - 1),Lib.hasPrefix (FB s) [36],Lib.hasPrefix (IF s) [36]⟩
def AQ (s:List UInt8):Bool:=(Bt (Al B5 (EY s))).isSome&&(KB s).isSome&&decide (CG (Dj s)=s)&&!decide (s=[])
def NZ:Cn:=⟨[],0,0,false,false⟩
def FE (s:List UInt8):Value:=if AQ s then .tuple #[K8 (Dj s),.bool true] else .tuple #[K8 NZ,.bool false]
theorem M9 (s:List UInt8):DR s=.tuple #[.int .i64 ((Bt s).getD 0),.bool (Bt s).isSome]:=by
 unfold DR;cases Bt s<;>rfl
theorem KX (s:List UInt8):-1000000≤(Bt s).getD 0∧(Bt s).getD 0≤1000000:=by
 unfold Bt
 split
 ·rename_i a;have:=Fx [a] 0
  split<;>simp<;>omega
 ·rename_i a b;have:=Fx [a,b] 0;have:=Fx [a,b] 1
  split<;>simp<;>omega
 ·simp
theorem MP (s:List UInt8) (hs:s.length≤1000) (w:World) (g:Cm w):AL Tryz.prog 215 [Ap s] w (λv w'=>v=FE s∧Ag w w'):=by
 refine Br Tryz.func215 Tryz.ntmps215 ?_;refine Sa ?_;refine D4 λR w1 ay hx hR=>?_;refine Sa ?_;refine D4 λC w2 az ah hC=>?_;have b0:R<C:=by have:=hR.lt;omega
 replace hR:Blk w2 R (Cr NZ) 113:=hR.ext ah;replace hC:Blk w2 C (Cr NZ) 113:=hC;replace hx:=hx.trans ah;refine Sa ?_;refine Ei λX w3 b1 af hX=>?_;have b2:C<X:=by have:=hC.lt;omega
 replace hR:=hR.ext af;replace hC:=hC.ext af;replace hX:Blk w3 X [Ap s] 253:=hX;replace hx:=hx.trans af;refine Sa ?_;refine AE rfl rfl (TW s [33] (by omega) w3 (g.ext hx)) ?_;rintro v w4 ⟨rfl,ac⟩;replace hR:=hR.ext ac;replace hC:=hC.ext ac;replace hX:=hX.ext ac;replace hx:=hx.trans ac;refine Sl ?_;apply LW.nil;apply QW.then_n;refine CW.cut (ι:=Unit) (λ_ w'=>Ag w w'∧Blk w' R (Cr NZ) 113∧Blk w' C [Ap (FP s),.int .i64 0,.int .i64 0,.bool false,.bool false] 113∧Blk w' X [Ap (FB s)] 253)
  (λ_=>[(0,Ap s),(2,.pointer (some ⟨R,0,none⟩)),(3,.bool false),(4,.pointer (some ⟨C,0,none⟩)),(5,.pointer (some ⟨X,0,none⟩))]) ?_ ?_
 ·refine Sa ?_;refine A4 (λh1=>?_) λh1=>?_
  ·refine Sa ?_;refine CH λw5 ai aj=>?_;replace hR:=hR.chg ai (by simp;omega);replace hX:=hX.chg ai (by simp;omega);replace hx:=hx.step ai (by simp;omega);refine Sa ?_;refine CH λw6 a7 ap=>?_;replace hR:=hR.chg a7 (by simp;omega);replace aj:=aj.chg a7 (by simp;omega);replace hx:=hx.step a7 (by simp;omega);refine Sa ?_;refine QW.head () ⟨hx,hR,?_,?_⟩ Hz
   ·simpa [FP,h1,Cr,NZ] using aj
   ·simpa [FB,h1] using ap
  ·refine Sa ?_;refine QW.head () ⟨hx,hR,?_,?_⟩ Hz
   ·simpa [FP,h1,Cr,NZ] using hC
   ·simpa [FB,h1] using hX
 clear hx hR hC hX ah af ac;rintro _ w5 ⟨hx,hR,hC,hX⟩;have b3:(FB s).length≤s.length:=by
  unfold FB;split
  ·exact S5 s [33]
  ·omega
 have ao:(EY s).length≤1000:=Nat.le_trans (EH _ _) (by omega);have aq:(IF s).length≤1000:=Nat.le_trans (MA _ _) ao;have ar:(JG s).length≤1000:=Nat.le_trans (EH _ _) aq;have b4:(Al B5 (EY s)).length≤1000:=Nat.le_trans (Ic _ _) ao;have b5:(Al Av (JG s)).length≤1000:=Nat.le_trans (Ic _ _) ar;have au:(FP s).length≤1000:=by
  unfold FP;split
  ·exact Nat.le_trans (S4 s [33]) hs
  ·simp
 refine Sa ?_;refine LW.call (fs:=[.pointer (some ⟨X,0,none⟩)]) (cs:=[]) rfl rfl rfl (Oq _ X w5 hX) ?_;rintro v w6 ⟨rfl,a7,hX⟩;replace hR:=hR.chg a7 (by simp;omega);replace hC:=hC.chg a7 (by simp;omega);replace hx:=hx.step a7 (by simp;omega);refine Sa ?_;refine CH λw7 ak hC=>?_;replace hR:=hR.chg ak (by simp;omega);replace hX:=hX.chg ak (by simp;omega);replace hx:=hx.step ak (by simp;omega);refine Sa ?_;refine LW.call (fs:=[.pointer (some ⟨X,0,none⟩)]) (cs:=[]) rfl rfl rfl (Mc B5 _ DL (EY s) (by omega) X w7 hX) ?_;rintro v w8 ⟨rfl,al,hX⟩;replace hR:=hR.chg al (by simp;omega);replace hC:=hC.chg al (by simp;omega);replace hx:=hx.step al (by simp;omega);refine Sa ?_;refine AE rfl rfl (MO _ (by omega) w8) ?_;rintro v w9 ⟨rfl,ag⟩;rw [M9];replace hR:=hR.ext ag;replace hC:=hC.ext ag;replace hX:=hX.ext ag;replace hx:=hx.trans ag;refine Sa ?_;refine LW.call (fs:=[.pointer (some ⟨X,0,none⟩)]) (cs:=[]) rfl rfl rfl (Oq (IF s) X w9 hX) ?_;rintro v b6 ⟨rfl,a8,hX⟩;replace hR:=hR.chg a8 (by simp;omega);replace hC:=hC.chg a8 (by simp;omega);replace hx:=hx.step a8 (by simp;omega);refine Sa ?_;refine CH λav a9 hC=>?_;replace hR:=hR.chg a9 (by simp;omega);replace hX:=hX.chg a9 (by simp;omega);replace hx:=hx.step a9 (by simp;omega);refine Sa ?_;refine LW.call (fs:=[.pointer (some ⟨X,0,none⟩)]) (cs:=[]) rfl rfl rfl (Mc Av _ L4 (JG s) (by omega) X av hX) ?_;rintro v aw ⟨rfl,aa,hX⟩;replace hR:=hR.chg aa (by simp;omega);replace hC:=hC.chg aa (by simp;omega);replace hx:=hx.step aa (by simp;omega);refine Sa ?_;refine AE rfl rfl (FK _ (by omega) aw (g.ext hx)) ?_;rintro v b7 ⟨hv,a6⟩;replace hR:=hR.ext a6;replace hC:=hC.ext a6;replace hX:=hX.ext a6;replace hx:=hx.trans a6;have b8:=KX (Al B5 (EY s))
 cases a5:KB s with
 | some z=>
  have hv:v=.tuple #[.int .i64 z,.nilIface]:=by
   unfold KB at a5;unfold GI at hv
   split at a5
   ·rename_i m hm;rw [hm] at hv;simp only [Option.some.injEq] at a5;subst a5;exact hv
   ·cases a5
  subst hv;refine Sa ?_;refine LW.arith (op:=.sub) rfl rfl rfl rfl rfl ?_;refine Sa ?_;refine CH λax a3 hC=>?_;replace hR:=hR.chg a3 (by simp;omega);replace hx:=hx.step a3 (by simp;omega);refine Sa ?_;refine CH λam a4 hC=>?_;replace hR:=hR.chg a4 (by simp;omega);replace hx:=hx.step a4 (by simp;omega);replace hC:Blk am C (Cr (Dj s)) 113:=by
   have e:Cr (Dj s)=[Ap (FP s),.int .i64 ((Bt (Al B5 (EY s))).getD 0),.int .i64 (IntKind.i64.wrap (z - 1)),.bool (Lib.hasPrefix (FB s) [36]),.bool (Lib.hasPrefix (IF s) [36])]:=by
    simp [Cr,Dj,a5]
   rw [e];exact hC
  refine Sa ?_
  cases an:Bt (Al B5 (EY s)) with
  | none=>
   have a2:AQ s=false:=by simp [AQ,an]
   refine Sa ?_;refine Cj λad a0 a1=>?_;refine Sa ?_;refine QW.body_ct Tryz.results215 rfl a1 rfl rfl rfl rfl ⟨?_,hx.step a0 (by simp;omega)⟩;rw [FE,a2]
   rfl
  | some cz=>
   refine Sa ?_;refine AE rfl rfl (H0 (Dj s) au am (g.ext hx)) ?_;rintro v b9 ⟨rfl,ab⟩;replace hR:=hR.ext ab;replace hC:=hC.ext ab;replace hx:=hx.trans ab;refine Sa ?_;refine DU (λh1=>?_) λh1=>?_
   ·have a2:AQ s=false:=by
     have h1:¬CG (Dj s)=s:=by simpa using h1
     simp [AQ,h1]
    refine Sa ?_;refine Cj λad a0 a1=>?_;refine Sa ?_;refine QW.body_ct Tryz.results215 rfl a1 rfl rfl rfl rfl ⟨?_,hx.step a0 (by simp;omega)⟩;rw [FE,a2];rfl
   ·have h1:CG (Dj s)=s:=by simpa using h1
    refine Sa ?_;refine A4 (λh2=>?_) λh2=>?_
    ·have a2:AQ s=false:=by
      have h2:s=[]:=by simpa using h2
      simp [AQ,h2]
     refine Sa ?_;refine Cj λad a0 a1=>?_;refine Sa ?_;refine QW.body_ct Tryz.results215 rfl a1 rfl rfl rfl rfl ⟨?_,hx.step a0 (by simp;omega)⟩;rw [FE,a2];rfl
    ·have h2:¬s=[]:=by simpa using h2
     have ae:AQ s=true:=by simp [AQ,an,a5,h1,h2]
     refine Sa ?_;refine Cj λad a0 a1=>?_;refine Sa ?_;refine QW.body_ct Tryz.results215 rfl a1 rfl rfl rfl rfl ⟨?_,hx.step a0 (by simp;omega)⟩;rw [FE,if_pos ae]
     rfl
 | none=>
  have hv:∃z t x,v=.tuple #[.int .i64 z,.iface t x]:=by
   unfold KB at a5;unfold GI at hv;cases ha:Lib.atoiAll (Al Av (JG s))<;>simp only [ha,reduceCtorEq] at a5 hv<;>exact hv
  obtain ⟨z,te,xe,rfl⟩:=hv;have a2:AQ s=false:=by simp [AQ,a5]
  refine Sa ?_;refine LW.arith (op:=.sub) rfl rfl rfl rfl rfl ?_;refine Sa ?_;refine CH λax a3 hC=>?_;replace hR:=hR.chg a3 (by simp;omega);replace hx:=hx.step a3 (by simp;omega);refine Sa ?_;refine CH λam a4 hC=>?_;replace hR:=hR.chg a4 (by simp;omega);replace hx:=hx.step a4 (by simp;omega)
  cases an:Bt (Al B5 (EY s)) with
  | none=>
   refine Sa ?_;refine Cj λad a0 a1=>?_;refine Sa ?_;refine QW.body_ct Tryz.results215 rfl a1 rfl rfl rfl rfl ⟨?_,hx.step a0 (by simp;omega)⟩;rw [FE,a2]
   rfl
  | some cz=>
   refine Sa ?_;refine Cj λad a0 a1=>?_;refine Sa ?_;refine QW.body_ct Tryz.results215 rfl a1 rfl rfl rfl rfl ⟨?_,hx.step a0 (by simp;omega)⟩;rw [FE,a2];rfl
theorem H7 {l:List UInt8} {i:Nat} {c:UInt8} (hi:i<l.length):Ae l i=(c.toNat:Int)↔l[i]?=some c:=by
 rw [Di hi,List.getElem?_eq_getElem hi];constructor
 ·intro h;have:l[i].toNat=c.toNat:=by omega
  rw [UInt8.toNat_inj.1 this]
 ·intro h;simp only [Option.some.injEq] at h;rw [h]
theorem Tj (s:List UInt8) (i:Nat):Lib.occAt s [33] i=decide (s[i]?=some 33):=by
 unfold Lib.occAt
 cases h:s.drop i with
 | nil=>
  have:s.length≤i:=by
   have:=congrArg List.length h;simp at this;omega
  simp [List.getElem?_eq_none this]
 | cons c r=>
  have a0:i<s.length:=by
   have:=congrArg List.length h;simp at this;omega
  have:s[i]?=some c:=by
   have:=congrArg (λl:List UInt8=>l[0]?) h
   simpa using this
  rw [this];rw [Bool.eq_iff_iff];simp [List.isPrefixOf];exact eq_comm
theorem QM {s:List UInt8} {k:Nat} (hk:k<s.length) (h:Ae s k=33) (hn:∀j,j<k→Ae s j≠33):Lib.cut s [33]=(s.take k,s.drop (k+1),true):=by
 have hi:Lib.index s [33]=k:=by
  refine Lib.index_hit (λj hj=>?_) (by omega) ?_
  ·rw [Tj,decide_eq_false_iff_not];intro hh;exact hn j hj ((H7 (c:=33) (by omega)).2 hh)
  ·rw [Tj,decide_eq_true_eq];exact (H7 (c:=33) hk).1 h
 unfold Lib.cut;rw [hi,if_pos (by omega)];simp
theorem S6 {s:List UInt8} (hn:∀j,j<s.length→Ae s j≠33):Lib.cut s [33]=(s,[],false):=by
 have hi:Lib.index s [33]=-1:=by
  refine Lib.index_past (i:=s.length) (by simp) (λj hj=>?_) (by simp);rw [Tj,decide_eq_false_iff_not];intro hh;exact hn j hj ((H7 (c:=33) hj).2 hh)
 unfold Lib.cut;rw [hi,if_neg (by omega)]
theorem Ts (l:List UInt8):Lib.hasPrefix l [36]=decide (0<l.length∧Ae l 0=36):=by
 cases l with
 | nil=>rfl
 | cons c r=>
  rw [Bool.eq_iff_iff];have:=H7 (l:=c::r) (i:=0) (c:=36) (by simp);simp [Lib.hasPrefix,List.isPrefixOf];rw [show (36:Int)=(((36:UInt8).toNat:Nat):Int) from rfl,this];simp [eq_comm]
theorem TK (l:List UInt8):Lib.trimPrefix l [36]=if 0<l.length∧Ae l 0=36 then l.drop 1 else l:=by
 unfold Lib.trimPrefix;rw [Ts];simp only [decide_eq_true_eq];rfl
def d3 (n:Nat):List UInt8:=
 if n<10 then [ch (48+(n:Int))] else if n<100 then [ch (48+((n / 10:Nat):Int)),ch (48+(n:Int) % 10)] else [ch (48+((n / 100:Nat):Int)),ch (48+((n / 10:Nat):Int) % 10),ch (48+(n:Int) % 10)]
theorem BV {u:Nat} (h:u<10):Lib.decDigits u=[ch (48+(u:Int))]:=by
 rw [Lib.decDigits,dif_pos h];rfl
theorem Dk {u:Nat} (h:10≤u):Lib.decDigits u=Lib.decDigits (u / 10)++[ch (48+(u:Int) % 10)]:=by
 rw [Lib.decDigits,dif_neg (by omega)]
 congr 2
theorem VE {n:Nat} (h:n<1000):Lib.decDigits n=d3 n:=by
 unfold d3
 split
 ·rename_i h1;exact BV h1
 ·rename_i h1;rw [Dk (by omega)]
  split
  ·rw [BV (by omega)];rfl
  ·rw [Dk (by omega),BV (by omega)];have:n / 10 / 10=n / 100:=by omega
   rw [this];rfl
def NM (n:Nat):Bool:=(d3 n).all (λc=>Av (c.toNat:Int))&&decide (0<(d3 n).length)&&decide ((d3 n).length≤3)&&decide (Lib.atoiAll (d3 n)=.ok (n:Int))
theorem O7:∀n:Fin 1000,NM n.val=true:=by decide +kernel
theorem Ur {z:Int} (h0:0≤z) (h1:z<1000):Lib.itoa z=d3 z.toNat:=by
 unfold Lib.itoa;rw [if_neg (by omega),VE (by omega)]
theorem G0 {z:Int} (h0:0≤z) (h1:z<1000):(∀c∈Lib.itoa z,Av (c.toNat:Int)=true)∧0<(Lib.itoa z).length∧(Lib.itoa z).length≤3∧Lib.atoiAll (Lib.itoa z)=.ok z:=by
 have:=O7 ⟨z.toNat,by omega⟩;rw [Ur h0 h1];simp only [NM,Bool.and_eq_true,List.all_eq_true,decide_eq_true_eq] at this;obtain ⟨⟨⟨a1,a2⟩,a3⟩,a4⟩:=this;exact ⟨a1,a2,a3,by rw [a4];congr 1;omega⟩
def UV (n:Nat):Bool:=(Fa (n:Int)).all (λc=>B5 (c.toNat:Int))&&decide (0<(Fa (n:Int)).length)&&decide (Bt (Fa (n:Int))=some (n:Int))
theorem Sn:∀n:Fin 702,UV n.val=true:=by decide +kernel
theorem Mo {z:Int} (h0:0≤z) (h1:z≤701):(∀c∈Fa z,B5 (c.toNat:Int)=true)∧0<(Fa z).length∧Bt (Fa z)=some z:=by
 have:=Sn ⟨z.toNat,by omega⟩;have e:((z.toNat:Nat):Int)=z:=by omega
 simp only [UV,e,Bool.and_eq_true,List.all_eq_true,decide_eq_true_eq] at this;exact ⟨this.1.1,this.1.2,this.2⟩
theorem DC {r:Cn} (h:AV r=true):(r.sheet=[]∨Dm r.sheet=true)∧0≤r.col∧r.col≤701∧0≤r.row∧r.row≤998:=by
 simp only [AV,Bool.and_eq_true,Bool.or_eq_true,decide_eq_true_eq] at h;exact ⟨h.1.1.1.1,h.1.1.1.2,h.1.1.2,h.1.2,h.2⟩
theorem Hm {l:List UInt8} (h:Dm l=true):l≠[]∧l.length≤12∧∀j,j<l.length→Sb (Ae l j)=true:=by
 simp only [Dm,Bool.and_eq_true,decide_eq_true_eq] at h;exact ⟨h.1.1.1,h.1.1.2,h.2⟩
def DS (r:Cn):List UInt8:=Lib.itoa (r.row+1)
def D1 (r:Cn):List UInt8:=CN r.ar++DS r
def FH (r:Cn):List UInt8:=Fa r.col++D1 r
def D0 (r:Cn):List UInt8:=CN r.ac++FH r
theorem TH (r:Cn):Bp r=(if r.sheet=[] then [] else r.sheet++[33])++D0 r:=by
 simp [Bp,D0,FH,D1,DS]
theorem IA (p:Int→Bool):∀(a b:List UInt8),(∀c∈a,p (c.toNat:Int)=true)→(b=[]∨p (Ae b 0)=false)→Al p (a++b)=a∧FF p (a++b)=b
 | [],b,_,hb=>by
  cases b with
  | nil=>simp [Al,FF]
  | cons c r=>
   have hc:p (c.toNat:Int)=false:=by
    rcases hb with hb | hb
    ·cases hb
    ·exact hb
   simp [Al,FF,hc]
 | c::a,b,ha,hb=>by
  have hc:=ha c (by simp);obtain ⟨h1,h2⟩:=IA p a b (λd hd=>ha d (by simp [hd])) hb;simp only [Al,FF] at h1 h2 ⊢;simp [hc,h1,h2]
theorem Bg {a b:List UInt8} {j:Nat} (h:j<a.length):Ae (a++b) j=Ae a j:=by
 unfold Ae;rw [List.getD_eq_getElem?_getD,List.getD_eq_getElem?_getD,List.getElem?_append_left h]
theorem Et {l:List UInt8} {j:Nat} (h:j<l.length):∃c∈l,Ae l j=(c.toNat:Int):=⟨l[j],List.getElem_mem h,Di h⟩
theorem PH (z:Int) (h:B5 z=true):z≠33∧z≠36∧Av z=false:=by
 simp [B5] at h;refine ⟨by omega,by omega,?_⟩;simp [Av];omega
theorem PK (z:Int) (h:Av z=true):z≠33∧z≠36∧B5 z=false:=by
 simp [Av] at h;refine ⟨by omega,by omega,?_⟩;simp [B5];omega
theorem Vp (z:Int) (h:Sb z=true):z≠33∧z≠36:=by
 simp [Sb,Jh,B5,Av] at h;omega
theorem Wq {r:Cn} (h:AV r=true):∀c∈D0 r,(c.toNat:Int)≠33:=by
 obtain ⟨_,c0,c1,r0,r1⟩:=DC h;obtain ⟨hc,_,_⟩:=Mo c0 c1;obtain ⟨hd,_,_,_⟩:=G0 (z:=r.row+1) (by omega) (by omega);intro c hm;have mk:∀b,c∈CN b→(c.toNat:Int)≠33:=λb hb=>by
  cases b
  ·simp [CN] at hb
  ·simp [CN] at hb;subst hb;decide
 simp only [D0,FH,D1,DS,List.mem_append] at hm;rcases hm with hm | hm | hm | hm
 ·exact mk _ hm
 ·exact (PH _ (hc c hm)).1
 ·exact mk _ hm
 ·exact (PK _ (hd c hm)).1
theorem VN {r:Cn} (h:AV r=true) :
  FP (Bp r)=r.sheet∧FB (Bp r)=D0 r∧Lib.hasPrefix (D0 r) [36]=r.ac∧EY (Bp r)=FH r∧Al B5 (FH r)=Fa r.col∧IF (Bp r)=D1 r∧
  Lib.hasPrefix (D1 r) [36]=r.ar∧JG (Bp r)=DS r∧Al Av (DS r)=DS r:=by
 obtain ⟨hs,c0,c1,r0,r1⟩:=DC h;obtain ⟨hc,a2,_⟩:=Mo c0 c1;obtain ⟨hd,a3,_,_⟩:=G0 (z:=r.row+1) (by omega) (by omega);have a4:=Wq h;have e0:FP (Bp r)=r.sheet∧FB (Bp r)=D0 r:=by
  rw [TH];by_cases a1:r.sheet=[]
  ·rw [if_pos a1,List.nil_append];have a0:=S6 (s:=D0 r) (λj hj=>by
    obtain ⟨c,hm,e⟩:=Et hj;rw [e];exact a4 c hm)
   simp [FP,FB,a0,a1]
  ·rw [if_neg a1];have hn:Dm r.sheet=true:=hs.resolve_left a1;obtain ⟨_,_,a5⟩:=Hm hn;have a0:=QM (s:=r.sheet++[33]++D0 r) (k:=r.sheet.length) (by simp)
    (by
     refine (H7 (c:=33) (by simp)).2 ?_;simp)
    (λj hj=>by
     rw [List.append_assoc,Bg hj];exact (Vp _ (a5 j hj)).1)
   have t1:(r.sheet++[33]++D0 r).take r.sheet.length=r.sheet:=by rw [List.append_assoc,List.take_left]
   have t2:(r.sheet++[33]++D0 r).drop (r.sheet.length+1)=D0 r:=by
    have:(r.sheet++[33]).length=r.sheet.length+1:=by simp
    rw [←this,List.drop_left]
   rw [t1,t2] at a0;unfold FP FB;rw [a0];exact ⟨rfl,rfl⟩
 have bcol:Ae (FH r) 0≠36:=by
  obtain ⟨c,hm,e⟩:=Et a2;rw [FH,Bg a2,e];exact (PH _ (hc c hm)).2.1
 have bdig:Ae (DS r) 0≠36∧B5 (Ae (DS r) 0)=false:=by
  obtain ⟨c,hm,e⟩:=Et a3;rw [DS,e];exact (PK _ (hd c hm)).2
 have p0:Lib.hasPrefix (D0 r) [36]=r.ac∧Lib.trimPrefix (D0 r) [36]=FH r:=by
  rw [Ts,TK]
  cases ha:r.ac with
  | true=>
   have e:D0 r=36::FH r:=by simp [D0,CN,ha]
   have b:Ae (36::FH r) 0=36:=rfl
   rw [e];simp [b]
  | false=>
   have e:D0 r=FH r:=by simp [D0,CN,ha]
   rw [e];simp [bcol]
 have p2:Lib.hasPrefix (D1 r) [36]=r.ar∧Lib.trimPrefix (D1 r) [36]=DS r:=by
  rw [Ts,TK]
  cases ha:r.ar with
  | true=>
   have e:D1 r=36::DS r:=by simp [D1,CN,ha]
   have b:Ae (36::DS r) 0=36:=rfl
   rw [e];simp [b]
  | false=>
   have e:D1 r=DS r:=by simp [D1,CN,ha]
   rw [e];simp [bdig.1]
 have a6:B5 (Ae (D1 r) 0)=false:=by
  cases ha:r.ar with
  | true=>
   have e:D1 r=36::DS r:=by simp [D1,CN,ha]
   rw [e];rfl
  | false=>
   have e:D1 r=DS r:=by simp [D1,CN,ha]
   rw [e];exact bdig.2
 have s1:=IA B5 (Fa r.col) (D1 r) hc (Or.inr a6);have s3:=IA Av (DS r) [] hd (Or.inl rfl);rw [List.append_nil] at s3;have k1:EY (Bp r)=FH r:=by rw [EY,e0.2,p0.2]
 have k2:IF (Bp r)=D1 r:=by rw [IF,k1];exact s1.2
 exact ⟨e0.1,e0.2,p0.1,k1,s1.1,k2,p2.1,by rw [JG,k2,p2.2],s3.1⟩
theorem KJ {r:Cn} (h:AV r=true):Bp r≠[]:=by
 obtain ⟨_,_,_,r0,r1⟩:=DC h;obtain ⟨_,a0,_,_⟩:=G0 (z:=r.row+1) (by omega) (by omega);intro he;have:=congrArg List.length he;simp [Bp] at this;have h2:=this.2.2.2.2;rw [h2] at a0;simp at a0
theorem RB {r:Cn} (h:AV r=true):AQ (Bp r)=true∧Dj (Bp r)=r:=by
 obtain ⟨q1,q2,q3,q4,q5,q6,q7,q8,q9⟩:=VN h;obtain ⟨_,c0,c1,r0,r1⟩:=DC h;obtain ⟨_,_,a0⟩:=Mo c0 c1;obtain ⟨_,_,_,a2⟩:=G0 (z:=r.row+1) (by omega) (by omega);have a1:KB (Bp r)=some (r.row+1):=by
  unfold KB;rw [q8,q9,DS,a2]
 have hv:Dj (Bp r)=r:=by
  unfold Dj;rw [q1,q4,q5,a0,a1,q2,q3,q6,q7];have:IntKind.i64.wrap ((some (r.row+1)).getD 0 - 1)=r.row:=by
   rw [Option.getD_some,show r.row+1 - 1=r.row by omega];exact TR (by omega) (by omega)
  rw [this];rfl
 refine ⟨?_,hv⟩;unfold AQ;rw [hv,q4,q5,a0,a1,CG,if_pos h];simp [KJ h]
theorem U6 {s:List UInt8} (h:AQ s=true):AV (Dj s)=true∧Bp (Dj s)=s:=by
 simp only [AQ,Bool.and_eq_true,decide_eq_true_eq,Bool.not_eq_true',decide_eq_false_iff_not] at h;obtain ⟨⟨_,h1⟩,h2⟩:=h;unfold CG at h1
 split at h1
 ·rename_i hm;exact ⟨hm,h1⟩
 ·exact absurd h1.symm h2
theorem GN {u:Nat} (h:10≤u):Lib.decDigits u=Lib.decDigits (u / 10)++[ch (48+(u:Int) % 10)]:=by
 rw [Lib.decDigits,dif_neg (by omega)]
 congr 2
theorem FC {u:Nat} (h:u<10):Lib.decDigits u=[ch (48+(u:Int))]:=by
 rw [Lib.decDigits,dif_pos h];rfl
theorem O2 (k:Int) (h0:0≤k) (h1:k≤9223372036854775807) (w:World):AL Tryz.prog 16 [.int .i64 k] w (λv w'=>v=Ap (Lib.itoa k)∧Ag w w'):=by
 obtain ⟨m,rfl⟩:=Int.eq_ofNat_of_zero_le h0;have a2:Lib.itoa (m:Int)=Lib.decDigits m:=by unfold Lib.itoa;rw [if_neg (by omega)];rfl
 have a0:=Lib.itoa_length_le (m:Int) (by omega) h1;rw [a2] at a0;rw [a2];refine Br Tryz.func16 Tryz.ntmps16 ?_;refine Sa ?_;refine CW.loop (ι:=Nat×List UInt8) (λi w'=>i.1≤m∧Ag w w'∧Lib.decDigits m=Lib.decDigits i.1++i.2) (λi=>[(0,.int .i64 (m:Int)),(3,.int .u64 (i.1:Int)),(4,Ap i.2)]) (λi=>i.1) (m,[]) ⟨by simp,Chg.refl _ _,by simp⟩ C0 ?_;rintro ⟨u,acc⟩ w1 ⟨hu,hx,hd⟩;simp only at hu hd;have a3:acc.length≤21:=by
  have:=congrArg List.length hd;rw [List.length_append] at this;omega
 refine Sa ?_;refine A4 (λh2=>?_) λh2=>?_
 ·have h2:10≤u:=by simp at h2;omega
  refine Sa ?_;refine DG λb w2 hb a1 hB=>?_;replace hB:Blk w2 b [.int .u8 (48+(u:Int) % 10)] 5:=hB;replace hx:=hx.trans a1;refine Sa ?_;refine QW.again (u / 10,[ch (48+(u:Int) % 10)]++acc) ⟨?_,hx,?_⟩ C0 ?_
  ·simp only;omega
  ·simp only;rw [hd,GN h2];simp
  ·simp only;omega
 ·have h2:u<10:=by simp at h2;omega
  refine Sa ?_;refine DG λb w2 hb a1 hB=>?_;replace hB:Blk w2 b [.int .u8 (48+(u:Int))] 5:=hB;replace hx:=hx.trans a1;refine Sa ?_;refine QW.body1 Tryz.results16 rfl ⟨?_,hx⟩;rw [hd,FC h2]
def B9 (acc:Int) (l:List UInt8):Int:=l.foldl (λa c=>10*a+((c.toNat:Int) - 48)) acc
theorem G4 (acc:Int) (l:List UInt8) (c:UInt8):B9 acc (l++[c])=10*B9 acc l+((c.toNat:Int) - 48):=by simp [B9]
theorem VJ {s:List UInt8} (h:AQ s=false):FE s=.tuple #[K8 NZ,.bool false]:=by rw [FE,h];rfl
theorem G5 (l:List UInt8) (h:∀j,j<l.length→Av (Ae l j)=true):0≤B9 0 l∧B9 0 l<10 ^ l.length:=by
 have key:∀(n:Nat) (l:List UInt8),l.length=n→(∀j,j<l.length→Av (Ae l j)=true)→0≤B9 0 l∧B9 0 l<10 ^ n:=by
  intro n
  induction n with
  | zero=>
   intro l hl _;have:l=[]:=List.eq_nil_of_length_eq_zero hl
   subst this;simp [B9]
  | succ n ih=>
   intro l hl h;have a0:l≠[]:=by intro h0;rw [h0] at hl;simp at hl
   have e:l=l.dropLast++[l.getLast a0]:=(List.dropLast_concat_getLast a0).symm;have a1:l.dropLast.length=n:=by simp;omega
   have h1:=ih l.dropLast a1 (λj hj=>by
    have:=h j (by omega);rw [e,Bg hj] at this;exact this)
   have h2:Av (((l.getLast a0).toNat:Nat):Int)=true:=by
    have:=h n (by omega);have e3:Ae l n=((l.getLast a0).toNat:Int):=by
     rw [Di (by omega)]
     congr 2
     rw [List.getLast_eq_getElem]
     congr 1
     omega
    rw [e3] at this;exact this
   have h3:B9 0 l=10*B9 0 l.dropLast+(((l.getLast a0).toNat:Int) - 48):=by
    conv=>lhs;rw [e]
    exact G4 _ _ _
   simp only [Av,Bool.and_eq_true,decide_eq_true_eq] at h2;rw [h3,Int.pow_succ];constructor<;>omega
 exact key l.length l rfl h
def EW (c:Int):Bool:=B5 c||(decide (97≤c)&&decide (c≤122))||decide (c=36)
def Ik (c:Int):Bool:=EW c||Av c||decide (c=33)
def Hv (c:Int):Bool:=decide (c=32)
def US (c:Int):Bool:=B5 c||Av c
def KP (l:List UInt8):Bool:=decide (l≠[])&&decide (l.length≤12)&&B5 (Ae l 0)&&decide (∀j,j<l.length→US (Ae l j)=true)
theorem Uh:KP []=false:=rfl
theorem SF {l:List UInt8} (h:12<l.length):KP l=false:=by simp [KP];intros;omega
theorem QT {l:List UInt8} (h:B5 (Ae l 0)=false):KP l=false:=by simp [KP,h]
theorem Vi {l:List UInt8} {k:Nat} (hk:k<l.length) (h:US (Ae l k)=false):KP l=false:=by
 simp only [KP,Bool.and_eq_false_iff,decide_eq_false_iff_not];exact Or.inr λhh=>by rw [hh k hk] at h;cases h
theorem SG {l:List UInt8} (h0:l≠[]) (h1:l.length≤12) (h2:B5 (Ae l 0)=true) (h3:∀j,j<l.length→US (Ae l j)=true):KP l=true:=by
 simp [KP,h0,h1,h2];exact h3
structure Ak where
 kind:Int
 text:List UInt8
 num:Int
 ref:Cn
 at_:Int
deriving DecidableEq
def CL (x:Ak):List Value:=[.int .i64 x.kind,Ap x.text,.int .i64 x.num,Ap x.ref.sheet,.int .i64 x.ref.col,.int .i64 x.ref.row,.bool x.ref.ac,.bool x.ref.ar,.int .i64 x.at_]
def AF:Cn:=⟨[],0,0,false,false⟩
theorem Fw (l:List UInt8) (a k:Nat):Ae (l.drop a) k=Ae l (a+k):=by
 simp [Ae,List.getD_eq_getElem?_getD,List.getElem?_drop]
theorem PJ {s:List UInt8} {a k:Nat}:cut s a k=(s.take k).drop a:=by rw [cut,List.drop_take]
theorem LU (p:Int→Bool) (s:List UInt8) (a k:Nat) (ha:a≤k) (hk:k≤s.length) (hall:∀j,a≤j→j<k→p (Ae s j)=true) (h:k=s.length∨p (Ae s k)=false) :
  (s.take k).drop a=Al p (s.drop a)∧k=a+(Al p (s.drop a)).length:=by
 have:=Jy p (s.drop a) (k - a) (by simp;omega) (λj hj=>by rw [Fw];exact hall _ (by omega) (by omega)) (by
  rcases h with h | h
  ·exact Or.inl (by simp;omega)
  ·exact Or.inr (by rw [Fw,show a+(k - a)=k by omega];exact h))
 have e:(s.take k).drop a=(s.drop a).take (k - a):=by rw [List.drop_take]
 have h2:=congrArg List.length this.1;rw [e,this.1];refine ⟨rfl,?_⟩;rw [←h2];simp;omega
def M3 (l:List UInt8):Option (Ak×Nat):=
 let sp:=Al Av l
 match Lib.atoiAll sp with
 | .ok z=>if Ae sp 0≠48∨sp.length=1 then some (⟨1,[],z,AF,0⟩,sp.length) else none
 | _=>none
def Gm (l:List UInt8):Option (Ak×Nat):=
 let sp:=Al Ik l
 if AQ sp then some (⟨4,[],0,Dj sp,0⟩,sp.length) else if KP sp then some (⟨3,sp,0,AF,0⟩,sp.length) else none
def GM:List UInt8:=[35,82,69,70,33]
def AN:List (List UInt8):=[[60,62],[60,61],[62,61],[43],[45],[42],[47],[38],[61],[60],[62],[40],[41],[44],[58]]
def FG (l:List UInt8):Option (Ak×Nat):=
 if Lib.hasPrefix l GM then some (⟨6,[],0,AF,0⟩,5) else (AN.find? λs=>Lib.hasPrefix l s).map λs=>(⟨5,s,0,AF,0⟩,s.length)
def AA:List UInt8→Option (List UInt8×Nat)
 | []=>none
 | [c]=>if c=34 then some ([],1) else none
 | c::d::r=>
  if c=34 then (if d=34 then (AA r).map λx=>(34::x.1,x.2+2) else some ([],1))
  else if c<32 then none else (AA (d::r)).map λx=>(c::x.1,x.2+1)
def Fs (l:List UInt8):Option (Ak×Nat):=(AA (l.drop 1)).map λx=>(⟨2,x.1,0,AF,0⟩,x.2+1)
def C5 (l:List UInt8):Option (Ak×Nat):=
 if Av (Ae l 0) then M3 l else if Ae l 0=34 then Fs l else if EW (Ae l 0) then Gm l else FG l
theorem Qh {l:List UInt8} {z:Int} (h:Lib.atoiAll (Al Av l)=.ok z):M3 l=if Ae (Al Av l) 0≠48∨(Al Av l).length=1 then some (⟨1,[],z,AF,0⟩,(Al Av l).length) else none:=by
 simp only [M3,h]
theorem NJ {l:List UInt8} (h:∀z,Lib.atoiAll (Al Av l)≠.ok z):M3 l=none:=by
 unfold M3
 cases e:Lib.atoiAll (Al Av l) with
 | ok z=>exact absurd e (h z)
 | _=>simp only [e]
theorem JN {α:Type} (p:α→Bool) (d:α):∀(l:List α) (k:Nat),k<l.length→(∀j,j<k→p (l.getD j d)=false)→p (l.getD k d)=true→l.find? p=some (l.getD k d)
 | [],k,hk,_,_=>by simp at hk
 | x::r,0,_,_,h=>by
  have h:p x=true:=h
  simp [List.find?,h]
 | x::r,k+1,hk,hn,h=>by
  have h0:p x=false:=hn 0 (by omega);have ih:=JN p d r k (by simpa using hk) (λj hj=>hn (j+1) (by omega)) h;simp only [List.find?,h0];exact ih
theorem L5 {α:Type} (p:α→Bool) (d:α):∀(l:List α),(∀j,j<l.length→p (l.getD j d)=false)→l.find? p=none
 | [],_=>rfl
 | x::r,hn=>by
  have h0:p x=false:=hn 0 (by simp);simp only [List.find?,h0];exact L5 p d r (λj hj=>hn (j+1) (by simp;omega))
theorem K2 {s p:List UInt8} (h:Lib.hasPrefix s p=true):p.length≤s.length:=(List.isPrefixOf_iff_prefix.1 h).length_le
theorem Ih {p:Int→Bool} {l:List UInt8} (hl:0<l.length) (h:p (Ae l 0)=true):0<(Al p l).length∧Ae (Al p l) 0=Ae l 0:=by
 cases l with
 | nil=>simp at hl
 | cons c r=>
  have hc:p (c.toNat:Int)=true:=h;simp [Al,hc];rfl
theorem GD (p:Int→Bool) (l:List UInt8):(Al p l).length≤l.length:=(List.takeWhile_prefix _).length_le
theorem Gw {s:List UInt8} {i:Nat} (h:i<s.length):∃c,s.drop i=c::s.drop (i+1)∧Ae s i=(c.toNat:Int):=
 ⟨s[i],List.drop_eq_getElem_cons h,Di h⟩
theorem TN {c:UInt8} (h:(c.toNat:Int)=34):c=34:=UInt8.toNat_inj.1 (by simpa using (by omega:c.toNat=34))
theorem MG {c:UInt8} (h:(c.toNat:Int)≠34):c≠34:=by
 rintro rfl;exact h rfl
theorem UH {c:UInt8} (h:(c.toNat:Int)<32):c<32:=UInt8.lt_iff_toNat_lt.2 (by simpa using (by omega:c.toNat<32))
theorem UG {c:UInt8} (h:¬(c.toNat:Int)<32):¬c<32:=λhh=>h (by have:=UInt8.lt_iff_toNat_lt.1 hh;simp at this;omega)
theorem T4 {s:List UInt8} {i:Nat} (h:s.length≤i):AA (s.drop i)=none:=by
 rw [List.drop_eq_nil_of_le h];rfl
theorem T7 {s:List UInt8} {i:Nat} (h:i+1<s.length) (h1:Ae s i=34) (h2:Ae s (i+1)=34):AA (s.drop i)=(AA (s.drop (i+2))).map λx=>(34::x.1,x.2+2):=by
 obtain ⟨c,e,hc⟩:=Gw (show i<s.length by omega);obtain ⟨d,e2,hd⟩:=Gw h;rw [e,e2];obtain rfl:=TN (hc.symm.trans h1);obtain rfl:=TN (hd.symm.trans h2);simp [AA]
theorem KG {s:List UInt8} {i:Nat} (h:i<s.length) (h1:Ae s i=34) (h2:i+1<s.length→Ae s (i+1)≠34):AA (s.drop i)=some ([],1):=by
 obtain ⟨c,e,hc⟩:=Gw h;rw [e];obtain rfl:=TN (hc.symm.trans h1);by_cases hl:i+1<s.length
 ·obtain ⟨d,e2,hd⟩:=Gw hl;rw [e2];have:=MG (c:=d) (by rw [←hd];exact h2 hl);simp [AA,this]
 ·rw [List.drop_eq_nil_of_le (by omega)];simp [AA]
theorem T5 {s:List UInt8} {i:Nat} (h:i<s.length) (h1:Ae s i<32):AA (s.drop i)=none:=by
 obtain ⟨c,e,hc⟩:=Gw h;rw [e];have h3:=UH (c:=c) (by rw [←hc];exact h1);have h4:=MG (c:=c) (by omega)
 cases s.drop (i+1) with
 | nil=>simp [AA,h4]
 | cons d r=>simp [AA,h4,h3]
theorem U9 {s:List UInt8} {i:Nat} (h:i<s.length) (h1:Ae s i≠34) (h2:¬Ae s i<32):AA (s.drop i)=(AA (s.drop (i+1))).map λx=>(ch (Ae s i)::x.1,x.2+1):=by
 obtain ⟨c,e,hc⟩:=Gw h;rw [e];have h3:=UG (c:=c) (by rw [←hc];exact h2);have h4:=MG (c:=c) (by rw [←hc];exact h1);have h5:ch (Ae s i)=c:=by rw [hc];simp [ch]
 rw [h5]
 cases s.drop (i+1) with
 | nil=>simp [AA,h4]
 | cons d r=>simp [AA,h4,h3]
def Fv (s:List UInt8) (a i:Nat) (out:List UInt8):Prop:=a≤i∧AA (s.drop a)=(AA (s.drop i)).map λx=>(out++x.1,x.2+(i - a))
theorem Fv.start (s:List UInt8) (a:Nat):Fv s a a []:=⟨Nat.le_refl _,by simp⟩
theorem Fv.go {s:List UInt8} {a i j:Nat} {out:List UInt8} {c:UInt8} (h:Fv s a i out) (hj:i≤j) (e:AA (s.drop i)=(AA (s.drop j)).map λx=>(c::x.1,x.2+(j - i))):Fv s a j (out++[c]):=by
 refine ⟨by have:=h.1;omega,?_⟩;rw [h.2,e,Option.map_map]
 congr 1
 funext x
 have:=h.1;simp;omega
def EQ (l:List UInt8) (a:Nat):Option (List Ak):=
 match _h:l.drop (Al Hv l).length with
 | []=>some [⟨0,[],0,AF,((a+(Al Hv l).length:Nat):Int)⟩]
 | c::r=>match C5 (c::r) with
  | none=>none
  | some (t,k)=>if _hk:k=0 then none else (EQ ((c::r).drop k) (a+(Al Hv l).length+k)).map ({t with at_:=((a+(Al Hv l).length:Nat):Int)}::·)
 termination_by l.length
 decreasing_by
 have:=congrArg List.length _h;simp at this;simp;omega
def He (s:List UInt8):Option (List Ak):=EQ s 0
theorem Ff {l:List UInt8} {a:Nat} (h:l.drop (Al Hv l).length=[]):EQ l a=some [⟨0,[],0,AF,((a+(Al Hv l).length:Nat):Int)⟩]:=by
 rw [EQ]
 split
 ·rfl
 ·rename_i c r e;rw [h] at e;cases e
theorem FV {l l':List UInt8} {a:Nat} (h:l.drop (Al Hv l).length=l') (hl:l'≠[]) (h1:C5 l'=none):EQ l a=none:=by
 rw [EQ]
 split
 ·rename_i e;rw [h] at e;exact absurd e hl
 ·rename_i c r e;rw [h] at e;subst e;rw [h1]
theorem G1 {l l':List UInt8} {a k:Nat} {t:Ak} (h:l.drop (Al Hv l).length=l') (hl:l'≠[]) (h1:C5 l'=some (t,k)) (hk:0<k) :
  EQ l a=(EQ (l'.drop k) (a+(Al Hv l).length+k)).map ({t with at_:=((a+(Al Hv l).length:Nat):Int)}::·):=by
 rw [EQ]
 split
 ·rename_i e;rw [h] at e;exact absurd e hl
 ·rename_i c r e;rw [h] at e;subst e;rw [h1];simp only;rw [dif_neg (by omega)]
theorem Ks {l:List UInt8} {t:Ak} {k:Nat} (h:M3 l=some (t,k)):k=(Al Av l).length∧t.kind=1:=by
 unfold M3 at h;simp only at h
 split at h
 ·split at h
  ·simp only [Option.some.injEq,Prod.mk.injEq] at h;exact ⟨h.2.symm,by rw [←h.1]⟩
  ·cases h
 ·cases h
theorem Pj:AQ []=false:=by decide +kernel
theorem Md {l:List UInt8} {t:Ak} {k:Nat} (h:Gm l=some (t,k)):k=(Al Ik l).length∧0<k:=by
 unfold Gm at h;simp only at h
 split at h
 ·rename_i hr;simp only [Option.some.injEq,Prod.mk.injEq] at h;refine ⟨h.2.symm,?_⟩;rw [←h.2]
  cases e:Al Ik l with
  | nil=>rw [e,Pj] at hr;cases hr
  | cons _ _=>simp
 ·split at h
  ·rename_i hr;simp only [Option.some.injEq,Prod.mk.injEq] at h;refine ⟨h.2.symm,?_⟩;rw [←h.2]
   cases e:Al Ik l with
   | nil=>rw [e,Uh] at hr;cases hr
   | cons _ _=>simp
  ·cases h
theorem RS {l:List UInt8} {t:Ak} {k:Nat} (h:Fs l=some (t,k)):0<k:=by
 unfold Fs at h
 cases e:AA (l.drop 1) with
 | none=>rw [e] at h;cases h
 | some x=>
  rw [e] at h;simp only [Option.map_some,Option.some.injEq,Prod.mk.injEq] at h;omega
theorem RO {l:List UInt8} {t:Ak} {k:Nat} (h:FG l=some (t,k)):0<k:=by
 unfold FG at h
 split at h
 ·simp only [Option.some.injEq,Prod.mk.injEq] at h;omega
 ·cases e:AN.find? λs=>Lib.hasPrefix l s with
  | none=>rw [e] at h;cases h
  | some x=>
   rw [e] at h;simp only [Option.map_some,Option.some.injEq,Prod.mk.injEq] at h;have hm:=List.mem_of_find?_eq_some e;have:∀s∈AN,0<s.length:=by decide
   have:=this x hm;omega
theorem Fh {l:List UInt8} (hl:l≠[]) {t:Ak} {k:Nat} (h:C5 l=some (t,k)):0<k:=by
 unfold C5 at h
 split at h
 ·rename_i hd;rw [(Ks h).1];exact (Ih (List.length_pos_iff.2 hl) hd).1
 ·split at h
  ·exact RS h
  ·split at h
   ·exact (Md h).2
   ·exact RO h
theorem MB:∀(l:List UInt8) {x:List UInt8×Nat},AA l=some x→x.2≤l.length
 | [],x,h=>by simp [AA] at h
 | [c],x,h=>by
  simp only [AA] at h
  split at h
  ·simp only [Option.some.injEq] at h;subst h;simp
  ·cases h
 | c::d::r,x,h=>by
  simp only [AA] at h
  split at h
  ·split at h
   ·cases e:AA r with
    | none=>rw [e] at h;cases h
    | some y=>
     rw [e] at h;simp only [Option.map_some,Option.some.injEq] at h;have:=MB r e;subst h;simp;omega
   ·simp only [Option.some.injEq] at h;subst h;simp
  ·split at h
   ·cases h
   ·cases e:AA (d::r) with
    | none=>rw [e] at h;cases h
    | some y=>
     rw [e] at h;simp only [Option.map_some,Option.some.injEq] at h;have:=MB (d::r) e;subst h;simp at this ⊢;omega
theorem Ql {l:List UInt8} {t:Ak} {k:Nat} (h:C5 l=some (t,k)):k≤l.length:=by
 unfold C5 at h
 split at h
 ·rw [(Ks h).1];exact GD _ _
 ·split at h
  ·unfold Fs at h
   cases e:AA (l.drop 1) with
   | none=>rw [e] at h;cases h
   | some x=>
    rw [e] at h;simp only [Option.map_some,Option.some.injEq,Prod.mk.injEq] at h;have:=MB _ e
    cases l with
    | nil=>cases e
    | cons c r=>
     simp at this ⊢;omega
  ·split at h
   ·rw [(Md h).1];exact GD _ _
   ·unfold FG at h
    split at h
    ·rename_i hp;simp only [Option.some.injEq,Prod.mk.injEq] at h;have:=K2 hp;have h5:GM.length=5:=rfl;omega
    ·cases e:AN.find? λs=>Lib.hasPrefix l s with
     | none=>rw [e] at h;cases h
     | some x=>
      rw [e] at h;simp only [Option.map_some,Option.some.injEq,Prod.mk.injEq] at h;have:=K2 (List.find?_some e);omega
theorem N1:∀(n:Nat) (l:List UInt8) (a:Nat) {out:List Ak},l.length≤n→EQ l a=some out→out.length≤l.length+1
 | n,l,a,out,hn,h=>by
  cases e:l.drop (Al Hv l).length with
  | nil=>
   rw [Ff e] at h;simp only [Option.some.injEq] at h
   subst h;simp
  | cons c r=>
   have hl:=congrArg List.length e;simp at hl
   cases ho:C5 (c::r) with
   | none=>rw [FV e (by simp) ho] at h;cases h
   | some x=>
    obtain ⟨t,k⟩:=x;have hk:=Fh (by simp) ho;have hk2:=Ql ho;rw [G1 e (by simp) ho hk] at h
    cases hr:EQ ((c::r).drop k) (a+(Al Hv l).length+k) with
    | none=>rw [hr] at h;cases h
    | some y=>
     rw [hr] at h;simp only [Option.map_some,Option.some.injEq] at h;subst h
     match n with
     | 0=>omega
     | n+1=>
      have hd:((c::r).drop k).length=r.length+1 - k:=by simp
      have:=N1 n ((c::r).drop k) _ (by rw [hd];omega) hr;simp only [List.length_cons];rw [hd] at this;omega
theorem SX {s:List UInt8} {l:List Ak} (h:He s=some l):l.length≤s.length+1:=N1 _ s 0 (Nat.le_refl _) h
def EU (s:List UInt8) (a:Nat) (out:List Ak):Prop:=He s=(EQ (s.drop a) a).map (out++·)
theorem EU.start (s:List UInt8):EU s 0 []:=by simp [EU,He]
theorem EU.end {s:List UInt8} {a:Nat} {out:List Ak} (h:EU s a out) (he:a+(Al Hv (s.drop a)).length=s.length):He s=some (out++[⟨0,[],0,AF,(s.length:Int)⟩]):=by
 rw [h,Ff (by rw [List.drop_drop,he,List.drop_length]),he];rfl
theorem EU.bad {s:List UInt8} {a c:Nat} {out:List Ak} (h:EU s a out) (he:a+(Al Hv (s.drop a)).length=c) (hc:c<s.length) (h1:C5 (s.drop c)=none):He s=none:=by
 rw [h,FV (l':=s.drop c) (by rw [List.drop_drop,he]) (by intro hn;have:=congrArg List.length hn;simp at this;omega) h1];rfl
theorem EU.go {s:List UInt8} {a c k:Nat} {out:List Ak} {t:Ak} (h:EU s a out) (he:a+(Al Hv (s.drop a)).length=c) (hc:c<s.length) (h1:C5 (s.drop c)=some (t,k)):EU s (c+k) (out++[{t with at_:=(c:Int)}]):=by
 have a0:s.drop c≠[]:=by intro hn;have:=congrArg List.length hn;simp at this;omega
 unfold EU;rw [h,G1 (l':=s.drop c) (by rw [List.drop_drop,he]) a0 h1 (Fh a0 h1),he,List.drop_drop,Option.map_map]
 congr 1
 funext x
 simp
theorem LL (acc:Int) (c:UInt8) (r:List UInt8):B9 acc (c::r)=B9 (10*acc+((c.toNat:Int) - 48)) r:=rfl
theorem I1:∀(l:List UInt8) (acc:Int),0≤acc→(∀c∈l,48≤c.toNat)→acc≤B9 acc l
 | [],acc,_,_=>Int.le_refl _
 | c::r,acc,h,hd=>by
  rw [LL];have hc:=hd c (by simp);have:=I1 r (10*acc+((c.toNat:Int) - 48)) (by omega) (λx hx=>hd x (by simp [hx]));omega
theorem HS:∀(l:List UInt8) (acc:Nat),acc<18446744073709551616→(∀c∈l,48≤c.toNat∧c.toNat≤57)→
  Lib.parseUint10 acc l=if B9 acc l<18446744073709551616 then .ok (B9 acc l).toNat else .range
 | [],acc,h,_=>by
  have:B9 acc []=acc:=rfl;simp only [Lib.parseUint10,this];rw [if_pos (by omega)]
  rfl
 | c::r,acc,h,hd=>by
  have hc:=hd c (by simp);have hr:∀x∈r,48≤x.toNat∧x.toNat≤57:=λx hx=>hd x (by simp [hx]);have e:(10*(acc:Int)+((c.toNat:Int) - 48))=((acc*10+(c.toNat - 48):Nat):Int):=by omega
  have hm:=I1 r (10*(acc:Int)+((c.toNat:Int) - 48)) (by omega) (λx hx=>(hr x hx).1);simp only [Lib.parseUint10];rw [if_pos hc,LL]
  split
  ·rw [if_neg (by omega)]
  ·split
   ·rw [if_neg (by omega)]
   ·rw [HS r _ (by omega) hr,e]
theorem MY {l:List UInt8} (h:l≠[]) (hd:∀c∈l,Av (c.toNat:Int)=true):Lib.atoiAll l=if B9 0 l≤9223372036854775807 then .ok (B9 0 l) else .range:=by
 have a0:∀c∈l,48≤c.toNat∧c.toNat≤57:=λc hc=>by
  have:=hd c hc;simp [Av] at this;omega
 have hp:=HS l 0 (by omega) a0;have hm:=I1 l 0 (by omega) (λc hc=>(a0 c hc).1)
 cases l with
 | nil=>exact absurd rfl h
 | cons c r=>
  have hc:=a0 c (by simp);rw [Lib.atoiAll_plain c r (by omega) (by omega)];have e:Lib.parseMag (c::r)=Lib.parseUint10 0 (c::r):=by simp [Lib.parseMag]
  rw [e,hp];simp only [Int.natCast_zero] at *;by_cases h1:B9 0 (c::r)<18446744073709551616
  ·rw [if_pos h1];simp only [Lib.signless];by_cases h2:B9 0 (c::r)≤9223372036854775807
   ·rw [if_pos h2,if_neg (by omega)]
    congr 1
    omega
   ·rw [if_neg h2,if_pos (by omega)]
  ·rw [if_neg h1,if_neg (by omega)];rfl
theorem Gk (p:Int→Bool):∀(l:List UInt8),∀c∈Al p l,p (c.toNat:Int)=true
 | [],c,hc=>by simp [Al] at hc
 | d::r,c,hc=>by
  have ih:=Gk p r;simp only [Al] at hc ih;cases hd:p (d.toNat:Int)
  ·simp [hd] at hc
  ·simp only [List.takeWhile_cons,hd,if_true,List.mem_cons] at hc;rcases hc with rfl | hc
   ·exact hd
   ·exact ih c hc
theorem M4 {l:List UInt8} (h:Al Av l≠[]):M3 l=if B9 0 (Al Av l)≤9223372036854775807∧(Ae (Al Av l) 0≠48∨(Al Av l).length=1) then some (⟨1,[],B9 0 (Al Av l),AF,0⟩,(Al Av l).length) else none:=by
 have ha:=MY h (Gk Av l);by_cases h1:B9 0 (Al Av l)≤9223372036854775807
 ·rw [if_pos h1] at ha;rw [Qh ha];simp only [h1,true_and]
 ·rw [if_neg h1] at ha;rw [NJ (by intro z hz;rw [ha] at hz;cases hz),if_neg (by intro hh;exact h1 hh.1)]
theorem F1 (c:Int) (w:World):AL Tryz.prog 195 [.int .u8 c] w (λv w'=>v=.bool (Av c)∧Ag w w'):=by
 refine Br Tryz.func195 Tryz.ntmps195 ?_;refine Sa ?_;refine DU (λh1=>?_) λh1=>?_
 all_goals
  refine Sa ?_;refine QW.body1 Tryz.results195 rfl ⟨?_,Chg.refl _ _⟩;simp [Av,h1]
theorem F0 (c:Int) (w:World):AL Tryz.prog 220 [.int .u8 c] w (λv w'=>v=.bool (B5 c)∧Ag w w'):=by
 refine Br Tryz.func220 Tryz.ntmps220 ?_;refine Sa ?_;refine DU (λh1=>?_) λh1=>?_
 all_goals
  refine Sa ?_;refine QW.body1 Tryz.results220 rfl ⟨?_,Chg.refl _ _⟩;simp [B5,h1]
theorem RQ (c:Int) (w:World):AL Tryz.prog 167 [.int .u8 c] w (λv w'=>v=.bool (Hv c)∧Ag w w'):=by
 refine Br Tryz.func167 Tryz.ntmps167 ?_;refine Sa ?_;refine QW.body1 Tryz.results167 rfl ⟨rfl,Chg.refl _ _⟩
theorem JD (c:Int) (w:World):AL Tryz.prog 198 [.int .u8 c] w (λv w'=>v=.bool (EW c)∧Ag w w'):=by
 refine Br Tryz.func198 Tryz.ntmps198 ?_;refine Sa ?_;refine AE rfl rfl (F0 _ _) ?_;rintro v w' ⟨rfl,hx⟩;refine Sa ?_;refine DU (λh1=>?_) λh1=>?_
 ·refine Sa ?_;refine QW.body1 Tryz.results198 rfl ⟨?_,hx⟩;simp [EW,h1]
 ·refine Sa ?_;refine DU (λh2=>?_) λh2=>?_
  ·refine Sa ?_;refine DU (λh3=>?_) λh3=>?_
   all_goals
    refine Sa ?_;refine QW.body1 Tryz.results198 rfl ⟨?_,hx⟩;simp [EW,h1,h2,h3]
  ·refine Sa ?_;refine QW.body1 Tryz.results198 rfl ⟨?_,hx⟩;simp [EW,h1,h2]
theorem P4 (c:Int) (w:World):AL Tryz.prog 221 [.int .u8 c] w (λv w'=>v=.bool (Ik c)∧Ag w w'):=by
 refine Br Tryz.func221 Tryz.ntmps221 ?_;refine Sa ?_;refine AE rfl rfl (JD _ _) ?_;rintro v w1 ⟨rfl,hx⟩;refine Sa ?_;refine DU (λh1=>?_) λh1=>?_
 ·refine Sa ?_;refine QW.body1 Tryz.results221 rfl ⟨?_,hx⟩;simp [Ik,h1]
 ·refine Sa ?_;refine AE rfl rfl (F1 _ _) ?_;rintro v w2 ⟨rfl,a0⟩;replace hx:=hx.trans a0;refine Sa ?_;refine DU (λh2=>?_) λh2=>?_
  all_goals
   refine Sa ?_;refine QW.body1 Tryz.results221 rfl ⟨?_,hx⟩;simp [Ik,h1,h2]
theorem Hf (p:Int→Bool) (f:Nat) (hp:∀(c:Int) (w:World),AL Tryz.prog f [.int .u8 c] w (λv w'=>v=.bool (p c)∧Ag w w')) (s:List UInt8) (hs:s.length≤1000000) (a:Nat) (ha:a≤s.length) (b:Nat) (w:World) (hB:Blk w b [Ap s,.int .i64 a] 196) :
  AL Tryz.prog 166 [.pointer (some ⟨b,0,none⟩),.func (.func f) #[] #[]] w
  (λv w'=>v=Ap (Al p (s.drop a))∧Chg [b] w w'∧Blk w' b [Ap s,.int .i64 ((a+(Al p (s.drop a)).length:Nat):Int)] 196):=by
 refine Br Tryz.func166 Tryz.ntmps166 ?_;refine Sa ?_;refine CW.loop (ι:=Nat) (λk w'=>a≤k∧k≤s.length∧Ag w w'∧∀j,a≤j→j<k→p (Ae s j)=true) (λk=>[(0,.pointer (some ⟨b,0,none⟩)),(1,.func (.func f) #[] #[]),(5,.int .i64 k)]) (λk=>s.length - k) a ⟨by omega,ha,Chg.refl _ _,by omega⟩ C0 ?_;rintro k w1 ⟨a2,hk,hx,a0⟩;replace hB:=hB.ext hx;refine Sa ?_;refine DU (λh1=>?_) λh1=>?_
 ·have h1:k<s.length:=by simpa using h1
  refine Sa ?_;refine LW.call (fs:=[]) (cs:=[]) rfl rfl rfl (hp _ _) ?_;rintro v w2 ⟨rfl,a4⟩;replace hB:=hB.ext a4;replace hx:=hx.trans a4;refine Sa ?_;refine A4 (λh2=>?_) λh2=>?_
  ·have h2:p (Ae s k)=true:=h2;refine Sa ?_;refine QW.again (k+1) ⟨by omega,by omega,hx,?_⟩ C0 (by omega);intro j a5 hj;by_cases a6:j=k
   ·subst a6;exact h2
   ·exact a0 j a5 (by omega)
  ·have h2:p (Ae s k)=false:=h2;obtain ⟨e1,e2⟩:=LU p s a k a2 hk a0 (Or.inr h2);refine Sa ?_;refine Lr ?_;refine Sq ?_;refine QL.slice_str (i:=a) (j:=k) rfl rfl rfl ⟨_,_,rfl,rfl⟩ ⟨_,_,rfl,rfl⟩ a2 hk rfl ?_;refine Sq ?_;refine QL.nil λw4 a1=>?_;replace hB:=hB.ext a1;replace hx:=hx.trans a1;refine Sa ?_;refine CH λw3 hc a3=>?_;refine Sa ?_;refine QW.body1 Tryz.results166 rfl ⟨?_,hx.chg.same hc,?_⟩
   ·rw [←e1,PJ]
   ·rw [←e2];exact a3
 ·have h1:k=s.length:=by simp at h1;omega
  obtain ⟨e1,e2⟩:=LU p s a k a2 hk a0 (Or.inl h1);refine Sa ?_;refine Lr ?_;refine Sq ?_;refine QL.slice_str (i:=a) (j:=k) rfl rfl rfl ⟨_,_,rfl,rfl⟩ ⟨_,_,rfl,rfl⟩ a2 hk rfl ?_;refine Sq ?_;refine QL.nil λw4 a1=>?_;replace hB:=hB.ext a1;replace hx:=hx.trans a1;refine Sa ?_;refine CH λw3 hc a3=>?_;refine Sa ?_;refine QW.body1 Tryz.results166 rfl ⟨?_,hx.chg.same hc,?_⟩
  ·rw [←e1,PJ]
  ·rw [←e2];exact a3
def Si (s:List UInt8) (a b:Nat) (w:World) (o:Option (Ak×Nat)) (v:Value) (w':World):Prop:=
 ∃t ok a',v=.tuple #[.agg ⟨CL t⟩,.bool ok]∧Chg [b] w w'∧Blk w' b [Ap s,.int .i64 ((a':Nat):Int)] 196∧a'≤s.length∧a≤a'∧o=if ok then some (t,a' - a) else none
theorem _root_.Go.E.Chg.fresh {S S':List Nat} {a b c:World} (h:Chg S a b) (k:Chg S' b c) (hs:∀j,j∈S'→a.heap.size≤j):Chg S a c:=
 (Chg.trans h k).mono λj hj hl=>by
  rcases List.mem_append.1 hj with hj | hj
  ·exact hj
  ·have:=hs j hj;omega
theorem LD (s:List UInt8) (w:World) (hs:s.length≤1000000):AL Tryz.prog 216 [Ap s] w (λv w'=>v=.bool (KP s)∧Ag w w'):=by
 refine Br Tryz.func216 Tryz.ntmps216 ?_;refine Sa ?_;refine DU (λh0=>?_) λh0=>?_
 ·have h0:s=[]:=by simpa using h0
  subst h0;refine Sa ?_;refine QW.body1 Tryz.results216 rfl ⟨rfl,Chg.refl _ _⟩
 have h0:s≠[]:=by simpa using h0
 have hp:0<s.length:=List.length_pos_iff.2 h0;refine Sa ?_;refine DU (λh1=>?_) λh1=>?_
 ·have h1:12<s.length:=by simp at h1;omega
  refine Sa ?_;refine QW.body1 Tryz.results216 rfl ⟨by rw [SF h1],Chg.refl _ _⟩
 have h1:s.length≤12:=by simp at h1;omega
 refine Sa ?_;refine AE rfl rfl (F0 _ _) ?_;rintro v w1 ⟨rfl,hx⟩;refine Sa ?_;refine A4 (λh2=>?_) λh2=>?_
 ·refine Sa ?_;refine QW.body1 Tryz.results216 rfl ⟨?_,hx⟩;rw [QT]
  simpa using h2
 have h2:B5 (Ae s 0)=true:=by simpa using h2
 refine Sa ?_;refine CW.loop (ι:=Nat) (λk w'=>k≤s.length∧Ag w w'∧∀j,j<k→US (Ae s j)=true) (λk=>[(0,Ap s),(18,.int .i64 s.length),(19,.int .i64 k)]) (λk=>s.length - k) 0 ⟨by omega,hx,by omega⟩ C0 ?_;rintro k w2 ⟨hk,a1,a0⟩;refine Sa ?_;refine A4 (λh3=>?_) λh3=>?_
 ·have h3:k<s.length:=by simpa using h3
  refine Sa ?_;refine AE rfl rfl (F0 _ _) ?_;rintro v w3 ⟨rfl,a2⟩;refine Sa ?_;refine DU (λh4=>?_) λh4=>?_
  ·refine Sa ?_;refine AE rfl rfl (F1 _ _) ?_;rintro v w4 ⟨rfl,a4⟩;refine Sa ?_;refine A4 (λh5=>?_) λh5=>?_
   ·refine Sa ?_;refine QW.body1 Tryz.results216 rfl ⟨?_,(a1.trans a2).trans a4⟩;rw [Vi h3];simp at h4 h5;simp [US,h4,h5]
   ·refine Sa ?_;refine QW.again (k+1) ⟨by omega,(a1.trans a2).trans a4,?_⟩ C0 (by omega);intro j hj;by_cases a3:j=k
    ·subst a3;simp at h5;simp [US,h5]
    ·exact a0 j (by omega)
  ·refine Sa ?_;refine QW.again (k+1) ⟨by omega,a1.trans a2,?_⟩ C0 (by omega);intro j hj;by_cases a3:j=k
   ·subst a3;simp at h4;simp [US,h4]
   ·exact a0 j (by omega)
 ·have h3:k=s.length:=by simp at h3;omega
  subst h3;refine Sa ?_;refine QW.body1 Tryz.results216 rfl ⟨?_,a1⟩;rw [SG h0 h1 h2 a0]
theorem Ph (s:List UInt8) (hs:s.length≤1000) (a:Nat) (ha:a<s.length) (hd:Av (Ae s a)=true) (b:Nat) (w0 w:World) (g:Cm w0) (h0:Ag w0 w) (hb0:w0.heap.size≤b) (hB:Blk w b [Ap s,.int .i64 a] 196) :
  AL Tryz.prog 196 [.pointer (some ⟨b,0,none⟩)] w (Si s a b w (M3 (s.drop a))):=by
 have a8:=GD Av (s.drop a);have a5:(s.drop a).length=s.length - a:=by simp
 obtain ⟨aa,ab⟩:=Ih (p:=Av) (l:=s.drop a) (by omega) (by rw [Fw];exact hd);have ac:=hB.lt;refine Br Tryz.func196 Tryz.ntmps196 ?_;refine Sa ?_;refine D4 λC w1 ad hx hC=>?_;have ae:b<C:=by omega
 replace hB:=hB.ext hx;refine Sa ?_;refine LW.call (fs:=[]) (cs:=[]) rfl rfl rfl (Hf Av _ F1 s (by omega) a (by omega) b w1 hB) ?_;rintro v w2 ⟨rfl,a3,hB⟩;replace hC:=hC.chg a3 (by simp;omega);have a0:Chg [b] w w2:=(Chg.trans hx a3).mono (by simp);have a9:Ag w0 w2:=(h0.trans hx).step a3 (by simpa using hb0);refine Sa ?_;refine AE rfl rfl (FK _ (by omega) w2 (g.ext a9)) ?_;rintro v w3 ⟨hv,a4⟩;replace hC:=hC.ext a4;replace hB:=hB.ext a4;replace a0:=a0.ext a4;unfold GI at hv;by_cases a6:∃z,Lib.atoiAll (Al Av (s.drop a))=.ok z
 ·obtain ⟨z,a7⟩:=a6;rw [a7] at hv;rw [Qh a7];simp only at hv;subst hv;refine Sa ?_
  (first | (apply LW.eql_nil;exact rfl;exact rfl;exact rfl;exact rfl) | (apply LW.eql_nil_nil;exact rfl;exact rfl;exact rfl;exact rfl))
  refine Sa ?_;refine DU (λh3=>?_) λh3=>?_
  ·refine Sa ?_;refine Cj λw4 a1 hC=>?_;replace hC:Blk w4 C (CL ⟨1,[],z,AF,0⟩) 115:=hC;replace hB:=hB.chg a1 (by simp;omega);replace a0:=a0.fresh a1 (by simp;omega);refine Sa ?_;refine QW.body_ct Tryz.results196 rfl hC rfl rfl rfl rfl ⟨_,_,_,rfl,a0,hB,by omega,by omega,?_⟩;have h3:Ae (Al Av (s.drop a)) 0≠48:=by simpa using h3
   simp only [h3,ne_eq,not_false_eq_true,true_or,if_true,Nat.add_sub_cancel_left]
  ·refine Sa ?_;refine Cj λw4 a1 hC=>?_;replace hC:Blk w4 C (CL ⟨1,[],z,AF,0⟩) 115:=hC;replace hB:=hB.chg a1 (by simp;omega);replace a0:=a0.fresh a1 (by simp;omega);refine Sa ?_;refine QW.body_ct Tryz.results196 rfl hC rfl rfl rfl rfl ⟨_,_,_,rfl,a0,hB,by omega,by omega,?_⟩;have h3:Ae (Al Av (s.drop a)) 0=48:=by simpa using h3
   simp only [h3,ne_eq,not_true_eq_false,false_or,Nat.add_sub_cancel_left,decide_eq_true_eq];by_cases h4:(Al Av (s.drop a)).length=1
   ·simp [h4]
   ·have h5:¬((Al Av (s.drop a)).length:Int)=1:=by omega
    simp [h4,h5]
 ·have a2:∀z,Lib.atoiAll (Al Av (s.drop a))≠.ok z:=λz hz=>a6 ⟨z,hz⟩;rw [NJ a2];obtain ⟨z,t,x,rfl⟩:∃z t x,v=.tuple #[.int .i64 z,.iface t x]:=by
   split at hv
   ·rename_i z hz;exact absurd hz (a2 z)
   ·exact hv
  refine Sa ?_
  (first | (apply LW.eql_nil;exact rfl;exact rfl;exact rfl;exact rfl) | (apply LW.eql_nil_nil;exact rfl;exact rfl;exact rfl;exact rfl))
  refine Sa ?_;refine Cj λw4 a1 hC=>?_;replace hC:Blk w4 C (CL ⟨1,[],z,AF,0⟩) 115:=hC;replace hB:=hB.chg a1 (by simp;omega);replace a0:=a0.fresh a1 (by simp;omega);refine Sa ?_;refine QW.body_ct Tryz.results196 rfl hC rfl rfl rfl rfl ⟨_,_,_,rfl,a0,hB,by omega,by omega,rfl⟩
theorem TQ (s:List UInt8) (hs:s.length≤1000) (a:Nat) (ha:a<s.length) (b:Nat) (w0 w:World) (g:Cm w0) (h0:Ag w0 w) (hb0:w0.heap.size≤b) (hB:Blk w b [Ap s,.int .i64 a] 196) :
  AL Tryz.prog 199 [.pointer (some ⟨b,0,none⟩)] w (Si s a b w (Gm (s.drop a))):=by
 have a8:=GD Ik (s.drop a);have a7:(s.drop a).length=s.length - a:=by simp
 have ac:=hB.lt;refine Br Tryz.func199 Tryz.ntmps199 ?_;refine Sa ?_;refine D4 λC w1 ad hx hC=>?_;have ae:b<C:=by omega
 replace hB:=hB.ext hx;refine Sa ?_;refine LW.call (fs:=[]) (cs:=[]) rfl rfl rfl (Hf Ik _ P4 s (by omega) a (by omega) b w1 hB) ?_;rintro v w2 ⟨rfl,a4,hB⟩;replace hC:=hC.chg a4 (by simp;omega);have a0:Chg [b] w w2:=(Chg.trans hx a4).mono (by simp);have a9:Ag w0 w2:=(h0.trans hx).step a4 (by simpa using hb0);refine Sa ?_;refine AE rfl rfl (MP _ (by omega) w2 (g.ext a9)) ?_;rintro v w3 ⟨rfl,a5⟩;replace hC:=hC.ext a5;replace hB:=hB.ext a5;replace a0:=a0.ext a5;have af:=a0.size
 cases hr:AQ (Al Ik (s.drop a)) with
 | true=>
  rw [FE,if_pos hr];refine Sa ?_;refine D4 λF w4 aa a1 hF=>?_;have ab:C<F:=by have:=hC.lt;omega
  replace hC:=hC.ext a1;replace hB:=hB.ext a1;replace a0:=a0.ext a1;refine Sa ?_;refine Cj λw5 a2 hF=>?_;replace hF:Blk w5 F (Cr (Dj (Al Ik (s.drop a)))) 113:=hF;replace hC:=hC.chg a2 (by simp;omega);replace hB:=hB.chg a2 (by simp;omega);replace a0:=a0.fresh a2 (by simp;omega);refine Sa ?_;refine Cj λw6 a3 hC=>?_;replace hC:Blk w6 C (CL ⟨4,[],0,Dj (Al Ik (s.drop a)),0⟩) 115:=hC;replace hB:=hB.chg a3 (by simp;omega);replace a0:=a0.fresh a3 (by simp;omega);refine Sa ?_;refine QW.body_ct Tryz.results199 rfl hC rfl rfl rfl rfl ⟨_,_,_,rfl,a0,hB,by omega,by omega,?_⟩
  simp [Gm,hr]
 | false=>
  rw [VJ hr];refine Sa ?_;refine D4 λF w4 aa a1 hF=>?_;have ab:C<F:=by have:=hC.lt;omega
  replace hC:=hC.ext a1;replace hB:=hB.ext a1;replace a0:=a0.ext a1;refine Sa ?_;refine Cj λw5 a2 hF=>?_;replace hC:=hC.chg a2 (by simp;omega);replace hB:=hB.chg a2 (by simp;omega);replace a0:=a0.fresh a2 (by simp;omega);refine Sa ?_;refine AE rfl rfl (LD _ w5 (by omega)) ?_;rintro v w7 ⟨rfl,a6⟩;replace hC:=hC.ext a6;replace hB:=hB.ext a6;replace a0:=a0.ext a6;refine Sa ?_;refine Cj λw6 a3 hC=>?_;replace hC:Blk w6 C (CL ⟨3,Al Ik (s.drop a),0,AF,0⟩) 115:=hC;replace hB:=hB.chg a3 (by simp;omega);replace a0:=a0.fresh a3 (by simp;omega);refine Sa ?_;refine QW.body_ct Tryz.results199 rfl hC rfl rfl rfl rfl ⟨_,_,_,rfl,a0,hB,by omega,by omega,?_⟩;simp [Gm,hr]
theorem TC (k:Nat) (hk:k<15):(AN.map Ap)[k]?=some (Ap (AN.getD k [])):=by
 have:AN.length=15:=rfl;simp [List.getD_eq_getElem?_getD,List.getElem?_eq_getElem (show k<AN.length by omega)]
theorem RN (s:List UInt8) (hs:s.length≤1000) (a:Nat) (ha:a<s.length) (b:Nat) (w:World) (hB:Blk w b [Ap s,.int .i64 a] 196) :
  AL Tryz.prog 200 [.pointer (some ⟨b,0,none⟩)] w (Si s a b w (FG (s.drop a))):=by
 have a7:(s.drop a).length=s.length - a:=by simp
 have ad:=hB.lt;refine Br Tryz.func200 Tryz.ntmps200 ?_;refine Sa ?_;refine D4 λC w1 ae hx hC=>?_;have af:b<C:=by omega
 replace hB:=hB.ext hx;refine Sa ?_;refine Lr ?_;refine Sq ?_;refine QL.slice_str (i:=a) (j:=s.length) rfl rfl rfl ⟨_,_,rfl,rfl⟩ rfl (by omega) (by omega) rfl ?_;refine Sq ?_;refine QL.call0 rfl rfl (λw' _=>GK _ _ w') ?_;refine Sq ?_;refine QL.nil λw2 a5=>?_;rw [Fb];replace hC:=hC.ext a5;replace hB:=hB.ext a5;replace hx:=hx.trans a5;refine Sa ?_;refine A4 (λhd=>?_) λhd=>?_
 ·have ab:=K2 hd;simp only [List.length_cons,List.length_nil] at ab;refine Sa ?_;refine CH λw3 a8 hB=>?_;replace hC:=hC.chg a8 (by simp;omega);have a0:Chg [b] w w3:=(Chg.trans hx a8).mono (by simp);refine Sa ?_;refine Cj λw4 a9 hC=>?_;replace hC:Blk w4 C (CL ⟨6,[],0,AF,0⟩) 115:=hC;replace hB:Blk w4 b [Ap s,.int .i64 ((a+5:Nat):Int)] 196:=hB.chg a9 (by simp;omega);replace a0:=a0.fresh a9 (by simp;omega);refine Sa ?_;refine QW.body_ct Tryz.results200 rfl hC rfl rfl rfl rfl ⟨_,_,_,rfl,a0,hB,by omega,by omega,?_⟩;have hd:Lib.hasPrefix (s.drop a) GM=true:=hd;simp [FG,hd]
 have hd:Lib.hasPrefix (s.drop a) GM=false:=hd;refine Sa ?_;refine DG λA w3 ag a6 hA=>?_;replace hA:Blk w3 A (AN.map Ap) 9:=hA;have ah:C<A:=by have:=hC.lt;omega
 replace hC:=hC.ext a6;replace hB:=hB.ext a6;replace hx:=hx.trans a6;have ai:=hx.size;refine Sa ?_;refine CW.loop (ι:=Nat) (λk w'=>k≤15∧Ag w3 w'∧∀j,j<k→Lib.hasPrefix (s.drop a) (AN.getD j [])=false) (λk=>[(0,.pointer (some ⟨b,0,none⟩)),(2,.pointer (some ⟨C,0,none⟩)),(24,.slice (some ⟨A,0,none⟩) 15 15),(25,.int .i64 15),(26,.int .i64 k)]) (λk=>15 - k) 0 ⟨by omega,Chg.refl _ _,by omega⟩ Hz ?_;rintro k w5 ⟨hk,a1,a2⟩;replace hA:=hA.ext a1;replace hC:=hC.ext a1;replace hB:=hB.ext a1;replace hx:=hx.trans a1;refine Sa ?_;refine A4 (λh1=>?_) λh1=>?_
 ·have h1:k<15:=by simp at h1;omega
  refine Sa ?_;refine LW.idx_slice (j:=k) rfl rfl rfl rfl rfl (by omega) (by simp;omega) (by show 0+_*1=_;omega) rfl ?_;refine Sa ?_;refine LW.load rfl hA (TC k h1) rfl rfl rfl ?_;refine Sa ?_;refine Lr ?_;refine Sq ?_;refine QL.slice_str (i:=a) (j:=s.length) rfl rfl rfl ⟨_,_,rfl,rfl⟩ rfl (by omega) (by omega) rfl ?_;refine Sq ?_;refine QL.call0 rfl rfl (λw' _=>GK _ _ w') ?_;refine Sq ?_;refine QL.nil λw6 a4=>?_;rw [Fb];replace hC:=hC.ext a4;replace hB:=hB.ext a4;replace hx:=hx.trans a4;replace a1:=a1.trans a4;refine Sa ?_;refine A4 (λh2=>?_) λh2=>?_
  ·have h2:Lib.hasPrefix (s.drop a) (AN.getD k [])=true:=h2;have hp:=K2 h2;refine Sa ?_;refine CH λw7 aa hB=>?_;replace hC:=hC.chg aa (by simp;omega);have a0:Chg [b] w w7:=(Chg.trans hx aa).mono (by simp);refine Sa ?_;refine Cj λw8 a3 hC=>?_;replace hC:Blk w8 C (CL ⟨5,AN.getD k [],0,AF,0⟩) 115:=hC;replace hB:Blk w8 b [Ap s,.int .i64 ((a+(AN.getD k []).length:Nat):Int)] 196:=hB.chg a3 (by simp;omega);replace a0:=a0.fresh a3 (by simp;omega);refine Sa ?_;refine QW.body_ct Tryz.results200 rfl hC rfl rfl rfl rfl ⟨_,_,_,rfl,a0,hB,by omega,by omega,?_⟩;simp only [FG,hd,JN (λx=>Lib.hasPrefix (s.drop a) x) [] AN k h1 a2 h2];simp
  ·have h2:Lib.hasPrefix (s.drop a) (AN.getD k [])=false:=h2;refine Sa ?_;refine QW.again (k+1) ⟨by omega,a1,?_⟩ Hz (by omega);intro j hj;by_cases ac:j=k
   ·subst ac;exact h2
   ·exact a2 j (by omega)
 ·have h1:k=15:=by simp at h1;omega
  subst h1;refine Sa ?_;refine Cj λw8 a3 hC=>?_;replace hC:Blk w8 C (CL ⟨0,[],0,AF,0⟩) 115:=hC;replace hB:=hB.chg a3 (by simp;omega);have a0:Chg [b] w w8:=(hx.mono (S':=[b]) (by simp)).fresh a3 (by simp;omega);refine Sa ?_;refine QW.body_ct Tryz.results200 rfl hC rfl rfl rfl rfl ⟨_,_,a,rfl,a0,hB,by omega,by omega,?_⟩;simp only [FG,hd,L5 (λx=>Lib.hasPrefix (s.drop a) x) [] AN a2];simp
theorem NQ {w:World} {lo:Nat} {e:TypeId} {v:Value} {out:List UInt8} {z:Int} (h0:0≤z) (h1:z≤255) (h:Ay w lo e 1 v (out.length+1) (A5 out++[.int .u8 z])):Ay w lo e 1 v (out++[ch z]).length (A5 (out++[ch z])):=by
 have e1:A5 (out++[ch z])=A5 out++[.int .u8 z]:=by simp [A5,Eu h0 h1]
 rw [e1]
 simpa using h
theorem RT (s:List UInt8) (hs:s.length≤1000) (a:Nat) (ha:a<s.length) (b:Nat) (w:World) (hB:Blk w b [Ap s,.int .i64 a] 196) :
  AL Tryz.prog 197 [.pointer (some ⟨b,0,none⟩)] w (Si s a b w (Fs (s.drop a))):=by
 have af:=hB.lt;refine Br Tryz.func197 Tryz.ntmps197 ?_;refine Sa ?_;refine D4 λC w1 ag hx hC=>?_;have ah:b<C:=by omega
 replace hB:=hB.ext hx;have ab:C<w1.heap.size:=hC.lt;have ai:=hx.size;refine Sa ?_;refine CW.loop (ι:=Nat×List UInt8×Value) (λk w'=>k.1≤s.length∧k.2.1.length≤k.1∧Ag w1 w'∧Ay w' w1.heap.size 5 1 k.2.2 k.2.1.length (A5 k.2.1)∧Fv s (a+1) k.1 k.2.1) (λk=>[(0,.pointer (some ⟨b,0,none⟩)),(2,.pointer (some ⟨C,0,none⟩)),(4,k.2.2),(5,.int .i64 k.1)]) (λk=>s.length - k.1) (a+1,[],.slice none 0 0) ⟨by simp;omega,by simp,Chg.refl _ _,Ay.nil _ _ _ _,Fv.start _ _⟩ BU ?_;rintro ⟨i,out,v⟩ w2 ⟨hi,ho,a1,a0,a5⟩;simp only at hi ho a0 a5;show CW _ _ _ _ _ [(0,.pointer (some ⟨b,0,none⟩)),(2,.pointer (some ⟨C,0,none⟩)),(4,v),(5,.int .i64 i)] _;have aj:=a5.1;have ak:C∉Ad v:=a0.old ab;have a9:b∉Ad v:=a0.old (by omega);replace hC:=hC.ext a1;replace hB:=hB.ext a1;have al:=a1.size;refine Sa ?_;refine A4 (λh1=>?_) λh1=>?_
 ·have h1:i<s.length:=by simp at h1;omega
  refine Sa ?_;have aa:=Fx s i;refine DU (λh2=>?_) λh2=>?_
  ·have h2:Ae s i=34:=by simpa using h2
   refine Sa ?_;refine DU (λh3=>?_) λh3=>?_
   ·have h3:i+1<s.length:=by simp at h3;omega
    refine Sa ?_;refine A4 (λh4=>?_) λh4=>?_
    ·have h4:Ae s (i+1)=34:=by simpa using h4
     refine Sa ?_;refine Sa ?_;refine DG λA w3 ac a7 hA=>?_;replace a0:=a0.ext a7;replace a1:=a1.trans a7;have ad:=a1.size;refine Sa ?_;refine LW.append rfl rfl rfl rfl rfl rfl a0 (by omega) hA rfl rfl rfl (by show (out.length+1)*2≤140737488355328;omega) rfl ?_;intro v' w4 a8 a2 ae;replace a1:=a1.step a8 (λk hk=>(a0.lt hk).1);refine Sa ?_;refine QW.again (i+2,out++[ch (Ae s i)],v') ⟨by show i+2≤_;omega,by show (out++_).length≤i+2;simp;omega,a1,NQ aa.1 (by omega) a2,Fv.go a5 (by omega) ?_⟩ BU (by show s.length - (i+2)<s.length - i;omega);rw [T7 h3 h2 h4,show i+2 - i=2 by omega,h2];rfl
    ·have h4:i+1<s.length→Ae s (i+1)≠34:=λ_=>by simpa using h4
     refine Sa ?_;refine CW.yes rfl (by simpa using h2) ?_;refine Sa ?_;refine CH λw5 a6 hB=>?_;replace hB:Blk w5 b [Ap s,.int .i64 ((i+1:Nat):Int)] 196:=hB;replace hC:=hC.chg a6 (by simp;omega);have a3:Chg [b] w w5:=(Chg.trans (hx.trans a1) a6).mono (by simp);replace a0:=a0.chg a6 (λj hj hb=>a9 (by simp at hb;subst hb;exact hj));refine Sa ?_;refine LW.string_own rfl a0 rfl rfl rfl rfl rfl rfl rfl ?_;refine Sa ?_;refine Cj λw8 a4 hC=>?_;replace hC:Blk w8 C (CL ⟨2,out,0,AF,0⟩) 115:=hC;replace hB:=hB.chg a4 (by simp;omega);replace a3:=a3.fresh a4 (by simp;omega);refine Sa ?_;refine QW.body_ct Tryz.results197 rfl hC rfl rfl rfl rfl ⟨_,_,_,rfl,a3,hB,by omega,by omega,?_⟩;have e:=a5.2;rw [KG h1 h2 h4] at e;simp only [Fs,List.drop_drop];rw [e];simp;omega
   ·have h3:¬i+1<s.length:=by simp at h3;omega
    have h4:i+1<s.length→Ae s (i+1)≠34:=λh=>absurd h h3;refine Sa ?_;refine CW.yes rfl (by simpa using h2) ?_;refine Sa ?_;refine CH λw5 a6 hB=>?_;replace hB:Blk w5 b [Ap s,.int .i64 ((i+1:Nat):Int)] 196:=hB;replace hC:=hC.chg a6 (by simp;omega);have a3:Chg [b] w w5:=(Chg.trans (hx.trans a1) a6).mono (by simp);replace a0:=a0.chg a6 (λj hj hb=>a9 (by simp at hb;subst hb;exact hj));refine Sa ?_;refine LW.string_own rfl a0 rfl rfl rfl rfl rfl rfl rfl ?_;refine Sa ?_;refine Cj λw8 a4 hC=>?_;replace hC:Blk w8 C (CL ⟨2,out,0,AF,0⟩) 115:=hC;replace hB:=hB.chg a4 (by simp;omega);replace a3:=a3.fresh a4 (by simp;omega);refine Sa ?_;refine QW.body_ct Tryz.results197 rfl hC rfl rfl rfl rfl ⟨_,_,_,rfl,a3,hB,by omega,by omega,?_⟩;have e:=a5.2;rw [KG h1 h2 h4] at e;simp only [Fs,List.drop_drop];rw [e];simp;omega
  ·have h2:Ae s i≠34:=by simpa using h2
   refine Sa ?_;refine CW.no rfl (by simpa using h2) ?_;refine Sa ?_;refine A4 (λh5=>?_) λh5=>?_
   ·have h5:Ae s i<32:=by simpa using h5
    refine Sa ?_;refine Cj λw8 a4 hC=>?_;replace hC:Blk w8 C (CL ⟨0,[],0,AF,0⟩) 115:=hC;replace hB:=hB.chg a4 (by simp;omega);have a3:Chg [b] w w8:=((hx.trans a1).mono (S':=[b]) (by simp)).fresh a4 (by simp;omega);refine Sa ?_;refine QW.body_ct Tryz.results197 rfl hC rfl rfl rfl rfl ⟨_,_,a,rfl,a3,hB,by omega,by omega,?_⟩;have e:=a5.2;rw [T5 (i:=i) (by omega) h5] at e;simp only [Fs,List.drop_drop];rw [e];simp
   ·have h5:¬Ae s i<32:=by simpa using h5
    refine Sa ?_;refine Sa ?_;refine DG λA w3 ac a7 hA=>?_;replace a0:=a0.ext a7;replace a1:=a1.trans a7;have ad:=a1.size;refine Sa ?_;refine LW.append rfl rfl rfl rfl rfl rfl a0 (by omega) hA rfl rfl rfl (by show (out.length+1)*2≤140737488355328;omega) rfl ?_;intro v' w4 a8 a2 ae;replace a1:=a1.step a8 (λk hk=>(a0.lt hk).1);refine Sa ?_;refine QW.again (i+1,out++[ch (Ae s i)],v') ⟨by show i+1≤_;omega,by show (out++_).length≤i+1;simp;omega,a1,NQ aa.1 (by omega) a2,Fv.go a5 (by omega) ?_⟩ BU (by show s.length - (i+1)<s.length - i;omega);rw [U9 h1 h2 h5,show i+1 - i=1 by omega]
 ·have h1:i=s.length:=by simp at h1;omega
  refine Sa ?_;refine Cj λw8 a4 hC=>?_;replace hC:Blk w8 C (CL ⟨0,[],0,AF,0⟩) 115:=hC;replace hB:=hB.chg a4 (by simp;omega);have a3:Chg [b] w w8:=((hx.trans a1).mono (S':=[b]) (by simp)).fresh a4 (by simp;omega);refine Sa ?_;refine QW.body_ct Tryz.results197 rfl hC rfl rfl rfl rfl ⟨_,_,a,rfl,a3,hB,by omega,by omega,?_⟩;have e:=a5.2;rw [T4 (i:=i) (by omega)] at e;simp only [Fs,List.drop_drop];rw [e];simp
def V2 (c:Int):Nat:=if Av c then 196 else if c=34 then 197 else if EW c then 199 else 200
theorem Ve (c:Int) (w:World):AL Tryz.prog 168 [.int .u8 c] w (λv w'=>v=.func (.func (V2 c)) #[] #[]∧Ag w w'):=by
 refine Br Tryz.func168 Tryz.ntmps168 ?_;refine Sa ?_;refine AE rfl rfl (F1 _ _) ?_;rintro v w1 ⟨rfl,hx⟩;refine Sa ?_;refine A4 (λh1=>?_) λh1=>?_
 ·refine Sa ?_;refine QW.body1 Tryz.results168 rfl ⟨?_,hx⟩;simp [V2,h1]
 ·refine Sa ?_;refine A4 (λh2=>?_) λh2=>?_
  ·have h2:c=34:=by simpa using h2
   refine Sa ?_;refine QW.body1 Tryz.results168 rfl ⟨?_,hx⟩;rw [V2,h1,if_neg (by simp),if_pos h2]
  ·have h2:c≠34:=by simpa using h2
   refine Sa ?_;refine AE rfl rfl (JD _ _) ?_;rintro v w2 ⟨rfl,a0⟩;replace hx:=hx.trans a0;refine Sa ?_;refine A4 (λh3=>?_) λh3=>?_
   all_goals
    refine Sa ?_;refine QW.body1 Tryz.results168 rfl ⟨?_,hx⟩;simp [V2,h1,h2,h3]
theorem Uz (s:List UInt8) (hs:s.length≤1000) (a:Nat) (ha:a<s.length) (b:Nat) (w0 w:World) (g:Cm w0) (h0:Ag w0 w) (hb0:w0.heap.size≤b) (hB:Blk w b [Ap s,.int .i64 a] 196) :
  AL Tryz.prog (V2 (Ae s a)) [.pointer (some ⟨b,0,none⟩)] w (Si s a b w (C5 (s.drop a))):=by
 have e:Ae (s.drop a) 0=Ae s a:=by rw [Fw];rfl
 unfold V2 C5;rw [e];cases h1:Av (Ae s a)
 ·by_cases h2:Ae s a=34
  ·simp only [Bool.false_eq_true,if_false,h2,if_true];exact RT s hs a ha b w hB
  ·cases h3:EW (Ae s a)
   ·simp only [Bool.false_eq_true,if_false,h2];exact RN s hs a ha b w hB
   ·simp only [Bool.false_eq_true,if_false,h2,if_true];exact TQ s hs a ha b w0 w g h0 hb0 hB
 ·simp only [if_true];exact Ph s hs a ha h1 b w0 w g h0 hb0 hB
def O4 (s:List UInt8) (v:Value) (w:World) (lo:Nat):Prop:=
 if 300<s.length then v=.tuple #[.slice none 0 0,.int .i64 4]
 else match He s with
  | none=>v=.tuple #[.slice none 0 0,.int .i64 5]
  | some l=>∃sv,v=.tuple #[sv,.int .i64 0]∧Ay w lo 115 9 sv l.length (l.flatMap CL)
theorem Qr {w:World} {lo:Nat} {e:TypeId} {v:Value} {out:List Ak} {t:Ak} (h:Ay w lo e 9 v (out.length+1) (out.flatMap CL++CL t)):Ay w lo e 9 v (out++[t]).length ((out++[t]).flatMap CL):=by
 simpa using h
theorem TX (s:List UInt8) (hs:s.length≤9223372036854775807) (w:World) (g:Cm w):AL Tryz.prog 123 [Ap s] w (λv w'=>O4 s v w' w.heap.size∧Ag w w'):=by
 refine Br Tryz.func123 Tryz.ntmps123 ?_;refine Sa ?_;refine A4 (λh1=>?_) λh1=>?_
 ·have h1:300<s.length:=by simp at h1;omega
  refine Sa ?_;refine QW.body2 Tryz.results123 rfl rfl ⟨?_,Chg.refl _ _⟩;rw [O4,if_pos h1]
 have h1:¬300<s.length:=by simp at h1;omega
 refine Sa ?_;refine Ei λb w1 az hx hB=>?_;replace hB:Blk w1 b [Ap s,.int .i64 ((0:Nat):Int)] 196:=hB;have al:b<w1.heap.size:=hB.lt;refine Sa ?_;refine CW.loop (ι:=Nat×List Ak×Value) (λk w'=>k.1≤s.length∧k.2.1.length≤k.1∧Ag w w'∧w1.heap.size≤w'.heap.size∧Blk w' b [Ap s,.int .i64 k.1] 196∧Ay w' w1.heap.size 115 9 k.2.2 k.2.1.length (k.2.1.flatMap CL)∧EU s k.1 k.2.1) (λk=>[(0,Ap s),(4,.pointer (some ⟨b,0,none⟩)),(5,k.2.2)]) (λk=>s.length - k.1) (0,[],.slice none 0 0) ⟨by simp,by simp,hx,Nat.le_refl _,hB,Ay.nil _ _ _ _,EU.start _⟩ C0 ?_;rintro ⟨a,out,v⟩ w2 ⟨ha,ho,am,b0,ai,a1,aa⟩;clear hB;simp only at ha ho ai a1 aa;show CW _ _ _ _ _ [(0,Ap s),(4,.pointer (some ⟨b,0,none⟩)),(5,v)] _;have af:b∉Ad v:=a1.old al;refine Sa ?_;refine AE rfl rfl (Hf Hv _ RQ s (by omega) a (by omega) b w2 ai) ?_;rintro u w3 ⟨rfl,ag,aj⟩;have ah:=am.step ag (by simp;omega);have b1:=ag.size;have a3:=a1.chg ag (λj hj hb=>af (by simp at hb;subst hb;exact hj));generalize hc:a+(Al Hv (s.drop a)).length=c at aj;have b2:c≤s.length:=by
  have:=GD Hv (s.drop a);simp at this;omega
 refine Sa ?_;refine A4 (λh2=>?_) λh2=>?_
 ·have h2:c=s.length:=by simp at h2;omega
  refine Sa ?_;refine DG λA w4 an a2 hA=>?_;replace hA:Blk w4 A (CL ⟨0,[],0,AF,(s.length:Int)⟩) 115:=by rw [←h2];exact hA
  have ao:=a2.size;refine Sa ?_;refine LW.append rfl rfl rfl rfl rfl rfl (a3.ext a2) (by omega) hA rfl rfl rfl (by show (out.length+1)*81≤140737488355328;omega) rfl ?_;intro v' w5 a6 a0 _;refine Sa ?_;refine QW.body2 Tryz.results123 rfl rfl ⟨?_,(ah.trans a2).step a6 (λk hk=>?_)⟩
  ·rw [O4,if_neg h1,aa.end (by omega)];refine ⟨_,rfl,?_⟩;obtain ⟨hl,hh⟩:=Qr a0;refine ⟨hl,?_⟩;rcases hh with hh | ⟨gg,cap,sp,e1,e2,e3,e4,e5⟩
   ·exact .inl hh
   ·exact .inr ⟨gg,cap,sp,e1,e2,e3,e4,by have:=hx.size;omega⟩
  ·have:=(a1.lt hk).1;have:=hx.size;omega
 have h2:c<s.length:=by simp at h2;omega
 refine Sa ?_;refine AE rfl rfl (Ve _ _) ?_;rintro u w4 ⟨rfl,a2⟩;have ao:=a2.size;refine Sa ?_;refine LW.call (fs:=[]) (cs:=[]) rfl rfl rfl (Uz s (by omega) c h2 b w w4 g (ah.trans a2) (by omega) (aj.ext a2)) ?_;rintro u w5 ⟨t,ok,a',rfl,a6,ap,aq,b3,a7⟩;have ar:=(ah.trans a2).step a6 (by simp;omega);have b4:=a6.size;have a0:=(a3.ext a2).chg a6 (λj hj hb=>af (by simp at hb;subst hb;exact hj));refine Sa ?_;refine D4 λC w6 b5 ab hC=>?_;have b6:=ab.size;refine Sa ?_;refine Cj λw7 ac hC=>?_;replace hC:Blk w7 C (CL t) 115:=hC;have ak:=(ar.trans ab).step ac (by simp;omega);have b7:=ac.size;have au:=(ap.ext ab).chg ac (by simp;omega);have a8:=(a0.ext ab).chg ac (λj hj hb=>by
  simp at hb;have:=(a0.lt hj).2;omega)
 refine Sa ?_
 cases ok with
 | false=>
  refine Sa ?_;refine QW.body2 Tryz.results123 rfl rfl ⟨?_,ak⟩
  rw [O4,if_neg h1,aa.bad hc h2 (by simpa using a7)]
 | true=>
  have a7:C5 (s.drop c)=some (t,a' - c):=by simpa using a7
  have av:=Fh (by intro hn;have:=congrArg List.length hn;simp at this;omega) a7;refine Sa ?_;refine CH λw8 ad hC=>?_;replace hC:Blk w8 C (CL {t with at_:=(c:Int)}) 115:=hC;have aw:=ak.step ad (by simp;omega);have b8:=ad.size;have ax:=au.chg ad (by simp;omega);have a9:=a8.chg ad (λj hj hb=>by
   simp at hb;have:=(a0.lt hj).2;omega)
  refine Sa ?_;refine DG λA w9 an ae hA=>?_;replace hA:Blk w9 A (CL {t with at_:=(c:Int)}) 115:=hA;have b9:=ae.size;refine Sa ?_;refine LW.append rfl rfl rfl rfl rfl rfl (a9.ext ae) (by omega) hA rfl rfl rfl (by show (out.length+1)*81≤140737488355328;omega) rfl ?_;intro v' ba a4 a5 _;have ay:=a4.size;refine Sa ?_;refine QW.again (a',out++[{t with at_:=(c:Int)}],v') ⟨aq,by simp;omega,?_,by omega,?_,Qr a5,?_⟩ C0 (by show s.length - a'<s.length - a;omega)
  ·refine (aw.trans ae).step a4 (λk hk=>?_);have:=(a1.lt hk).1;omega
  ·exact (ax.ext ae).chg a4 af
  ·have:=aa.go hc h2 a7
   rwa [show c+(a' - c)=a' by omega] at this
end Go.Proofs.YtefaigjfkddelaaGreatDoor
