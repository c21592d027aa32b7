/-
  Joined by program out of the texts Bla1 Bla2 Rep Blb1 Blb2 BlaL Pas1 BlaM Blm1.
-/
import Derived.Test.YtefaigjfkddelaaGreatDoorCkL
import Derived.Test.YtefaigjfkddelaaGreatDoorCkM
import Derived.Test.YtefaigjfkddelaaGreatDoorCkJ
import Derived.Test.YtefaigjfkddelaaGreatDoorCkI
import Derived.Test.YtefaigjfkddelaaGreatDoorCkA
import Derived.Test.YtefaigjfkddelaaGreatDoorCkH
import Derived.Test.YtefaigjfkddelaaGreatDoorCkE
namespace Go.Proofs.YtefaigjfkddelaaGreatDoor
open Go Go.E
theorem EC {s:Aj} (h:BX s=true):Cz s:=by
 simp only [BX,Bool.and_eq_true,decide_eq_true_eq,List.all_eq_true] at h;obtain ⟨⟨⟨⟨h1,h2⟩,h3⟩,h4⟩,h5⟩:=h;exact ⟨by omega,⟨h2,by omega⟩,λr hr=>(h5 r hr).1,λr hr t ht=>by have:=NA ((h5 r hr).2 t ht);omega⟩
theorem DB {b:Ah} (h:AX b=true) {i:Nat} {s:Aj} (hs:b[i]?=some s):BX s=true:=(CY.1 h).2.1 s (List.mem_of_getElem? hs)
theorem RK {p c:Ah} (hp:AX p=true) (hc:AX c=true):∀s∈A0 p c,s.May:=λsh hsh=>by
 obtain ⟨i,hi⟩:=List.getElem?_of_mem hsh;have hil:i<p.length:=by have:=(List.getElem?_eq_some_iff.1 hi).1;rwa [EE] at this
 obtain ⟨s,hs⟩:∃s,p[i]?=some s:=⟨_,List.getElem?_eq_getElem hil⟩;rw [Ht hs] at hi;obtain rfl:=Option.some.inj hi;have a0:BQ.May ⟨s.name,⟨[],0⟩,⟨[],0⟩,true⟩:=⟨rfl,rfl⟩
 split
 ·exact a0
 ·rename_i k hk
  split
  ·exact a0
  ·rename_i u hu;exact Py (DB hp hs) (DB hc hu)
theorem Q4 {s:BQ} (h:s.May):s.rows.to.length≤1048576∧s.cols.to.length≤1048576:=by
 obtain ⟨h1,h2⟩:=h;simp only [KV,Bool.and_eq_true,decide_eq_true_eq] at h1 h2;exact ⟨h1.1.2,h2.1.2⟩
theorem EX {w:World} {A i:Nat} {cs:List Value} {T:TypeId} {sv:Value} (h:Blk w A cs T) (hc:cs[i]?=some sv):∀j u,([sv]:List Value)[j]?=some u→w.cell? ((⟨A,i,none⟩:Addr).add j)=some u:=λj u hj=>by
 cases j with
 | zero=>
  obtain rfl:=Option.some.inj hj;rw [Ao]
  exact h.cell hc
 | succ j=>simp at hj
set_option maxRecDepth 8000 in
set_option maxHeartbeats 40000000 in
theorem OH (p c:Ah) (bp dp:Option Addr) (bc dc A:Nat) (w0 w:World) (hx0:Ag w0 w) (hAn:w0.heap.size≤A) (hp:BR w0 (.slice bp p.length bc) p) (hc:BR w0 (.slice dp c.length dc) c) (hmp:AX p=true) (hmc:AX c=true) (hA:Blk w A [.slice bp p.length bc,.slice dp c.length dc,.slice none 0 0] 58) :
  AL Tryz.prog 31 [.pointer (some ⟨A,0,none⟩)] w (λv w'=>v=.tuple #[]∧∃sp sc,MI w.heap.size w' (.slice sp p.length sc) (A0 p c)∧Blk w' A [.slice bp p.length bc,.slice dp c.length dc,.slice sp p.length sc] 58∧Chg [A] w w'):=by
 have b5:=(CY.1 hmp).1;have b6:=(CY.1 hmc).1;have b7:=hA.lt;have far:∀w',Chg [A] w w'→Ag w0 w':=λw' h=>hx0.step h (by simp;omega);refine Br Tryz.func31 Tryz.ntmps31 ?_;refine Sw ?_;refine CW.loop (ι:=Nat×Option Addr×Nat) (λx w'=>x.1≤p.length∧Chg [A] w w'∧MI w.heap.size w' (.slice x.2.1 x.1 x.2.2) ((A0 p c).take x.1)∧Blk w' A [.slice bp p.length bc,.slice dp c.length dc,.slice x.2.1 x.1 x.2.2] 58) (λx=>[(0,.pointer (some ⟨A,0,none⟩)),(9,.slice bp p.length bc),(10,.int .i64 p.length),(11,.int .i64 x.1)]) (λx=>p.length - x.1) (0,none,0) ⟨Nat.zero_le _,Chg.refl _ _,MI.nil,hA⟩ BU ?_;rintro ⟨i,op,oc⟩ w1 ⟨hi,ab,ai,aj⟩;dsimp only at hi ai aj;show CW _ _ _ _ _ [(0,.pointer (some ⟨A,0,none⟩)),(9,.slice bp p.length bc),(10,.int .i64 p.length),(11,.int .i64 (i:Int))] _;have a7:=far _ ab;have b8:=ab.size;refine Sw ?_;refine A4 (λh1=>?_) λh1=>?_;rotate_left
 ·have h1:i=p.length:=by simp at h1;omega
  subst h1;rw [List.take_of_length_le (by rw [EE];exact Nat.le_refl _)] at ai;refine Sw ?_;exact QW.body_n (rs:=[]) (vs:=[]) Tryz.results31 trivial rfl ⟨rfl,op,oc,ai,aj,ab⟩
 have h1:i<p.length:=by simp at h1;omega
 obtain ⟨s,hs⟩:∃s,p[i]?=some s:=⟨_,List.getElem?_eq_getElem h1⟩;obtain ⟨a,q,k,eqb,-,b9,hr,a8⟩:=AB.at hp hs;subst eqb;have ac:∀j u,(A1 s (.slice q s.rows.length k))[j]?=some u→w1.cell? ((a.add (((i:Nat):Int).toNat*3)).add j)=some u:=λj u hj=>Aw a7 (a8 j u hj);have av:=EC (DB hmp hs);have aw:=Ht (c:=c) hs;obtain ⟨et,el⟩:=Qz aw;obtain ⟨css,g1,g2,g3,g4⟩:=ai;rw [el] at g3;have hV:∀b,b∈Ad (Value.slice op i oc)→w.heap.size≤b∧b<w1.heap.size:=λb hb=>g3.lt hb;have aq:A∉Ad (Value.slice op i oc):=λh=>by have:=(hV A h).1;omega
 refine Sa ?_;refine Lo ?_;refine LW.load_cells rfl ac rfl rfl rfl rfl ?_;refine Sa ?_;refine D4 λX w2 ba ar hX=>?_;have bb:=hX.lt;have bd:=ar.size;refine Sa ?_;refine Cj λw3 ax hX=>?_;replace hX:Blk w3 X (A1 s (.slice q s.rows.length k)) 41:=hX;have a9:Ag w1 w3:=ar.step ax (by simp;omega);have ad:=aj.ext a9;refine Sa ?_;refine CW.drawG (Ag w3) 7 (λw' h=>h) (by kernel_rfl) λwa be=>?_;refine Cy ?_;refine GW.take 3 rfl rfl rfl rfl (λw' ak=>Y.load_cells rfl (EX (i:=1) (ad.ext ak) rfl) rfl rfl rfl) rfl rfl (by kernel_rfl) (by kernel_rfl) (by kernel_rfl) (λ_ _ _ h=>h) ?_;refine Cy ?_;refine Fu 6 λhS=>?_;refine AE rfl rfl (MK c _ s.name _ (hc.ext ((a7.trans a9).trans hS))) ?_;rintro v w4 ⟨rfl,ay⟩;have az:=hS.trans ay;clear hS;apply LW.nil;refine QW.headed az ?_;refine GW.tail rfl (by kernel_rfl) (λhS=>?_);have a1:=a9.trans hS;replace ad:=ad.ext hS;replace hX:=hX.ext hS;have b0:=a1.size;have bf:X∉Ad (Value.slice op i oc):=λh=>by have:=(hV X h).2;omega
 clear hS
 cases hk:Ly c s.name with
 | none=>
  rw [hk] at et;simp only at et;refine Sw ?_;refine CW.drawG (Chg (Ad (Value.slice op i oc)) w4) 12 (λw' h=>h.chg) (by kernel_rfl) λwb al=>?_;refine Sg ?_;refine Cy ?_;refine Sg ?_;refine Cy ?_;refine Fu 8 λhS=>?_;refine DG λD w6 b1 a3 hD=>?_;have b2:=a3.size;replace hD:Blk w6 D (O0 ⟨s.name,⟨[],0⟩,⟨[],0⟩,true⟩ (.slice none 0 0) (.slice none 0 0)) 73:=hD;have a4:Ag w4 wb:=al;have a0:Ag w4 w6:=a4.trans a3;have am:=a0.size;replace hS:=hS.ext a3;apply LW.nil;refine QW.headed hS ?_;refine Fu 9 λhS=>?_;refine LW.append (lo:=w.heap.size) (k:=i) rfl rfl rfl rfl rfl rfl ((g3.ext a1).ext a0) (by omega) hD rfl rfl rfl (by show (_+1)*89≤_;omega) rfl ?_;intro v7 w7 a5 ae an;have af:=MI.snoc (s:=⟨s.name,⟨[],0⟩,⟨[],0⟩,true⟩) g1 g2 g4 (a1.trans a0) (E.Ay.nil _ _ _ _) (E.Ay.nil _ _ _ _) (by simp [Ad]) (by simp [Ad]) a5 an (by rw [el];exact ae);rw [et] at af;obtain ⟨p7,c7,rfl⟩:=ae.slice;have a6:=(ad.ext a0).chg a5 aq;replace hS:=hS.same a5;apply LW.nil;refine QW.headed hS ?_;refine Cy ?_;refine GW.tail rfl (by kernel_rfl) (λhS=>?_);refine CH λw8 ag a6=>?_;replace a6:Blk w8 A [.slice (some a) p.length bc,.slice dp c.length dc,.slice p7 (i+1) c7] 58:=a6;refine Sa ?_
  exact QW.again (i+1,p7,c7) ⟨by show i+1≤_;omega,((ab.ext (a1.trans a0)).more a5 (λb hb=>(hV b hb).1)).same ag,af.chg ag (by simp;omega),a6⟩ BU (by show p.length - (i+1)<p.length - i;omega)
 | some k'=>
  obtain ⟨u,hu,-⟩:=MU hk;rw [hk] at et;simp only [hu] at et;have bg:=(List.getElem?_eq_some_iff.1 hu).1;have b3:=EC (DB hmc hu);have ao:=a7.trans a1;have bh:=hx0.size;obtain ⟨a2,q2,k2,eq2,-,-,b4,aa⟩:=AB.at hc hu;subst eq2;have far4:∀w',Chg (Ad (Value.slice op i oc)) w4 w'→Ag w0 w':=λw' h=>ao.step h (λb hb=>by have:=(hV b hb).1;omega);rw [show Uq (some k')=(k':Int) from rfl];refine Sw ?_;refine CW.drawG (Chg (Ad (Value.slice op i oc)) w4) 19 (λw' h=>h.chg) (by kernel_rfl) λwb al=>?_;refine Sg ?_;refine Cy ?_;refine Sg ?_;refine Cy ?_;refine Sg ?_;refine Cy ?_;refine GW.take 13 rfl rfl rfl rfl (λw' ak=>Y.load_cells rfl (λj u hj=>Aw (far4 _ ak) (aa j u hj)) rfl rfl rfl) rfl rfl (by kernel_rfl) (by kernel_rfl) (by kernel_rfl) (λ_ _ _ h=>h) ?_;refine Cy ?_;refine Fu 14 λhS=>?_;refine AE rfl rfl (MS s u _ _ _ (Bc.ext hr (far4 _ hS)) (Bc.ext b4 (far4 _ hS)) av b3) ?_;rintro v w5 ⟨ru,cu,rfl,o1,o2,au⟩;obtain ⟨rp,rc,rfl⟩:=o1.slice;obtain ⟨cp,cc,rfl⟩:=o2.slice;have a4:Ag w4 wb:=al;have bi:=a4.size;have ap:=a4.trans au;replace hS:=hS.ext au;apply LW.nil;refine QW.headed hS ?_;refine Fu 15 λhS=>?_;refine DG λD w6 b1 a3 hD=>?_;have b2:=a3.size;replace hD:Blk w6 D (O0 (AH s u) (.slice rp s.rows.length rc) (.slice cp s.cols.toNat cc)) 73:=hD;have a0:Ag w4 w6:=ap.trans a3;have am:=a0.size;replace hS:=hS.ext a3;apply LW.nil;refine QW.headed hS ?_;refine Fu 16 λhS=>?_;refine LW.append (lo:=w.heap.size) (k:=i) rfl rfl rfl rfl rfl rfl ((g3.ext a1).ext a0) (by omega) hD rfl rfl rfl (by show (_+1)*89≤_;omega) rfl ?_;intro v7 w7 a5 ae an;have ah:∀b,wb.heap.size≤b→b∉Ad (Value.slice op i oc):=λb hb hm=>by have:=(hV b hm).2;omega
  have o1':E.Ay w6 w.heap.size 3 1 (.slice rp s.rows.length rc) (AH s u).rows.to.length (Ac (AH s u).rows.to):=by
   rw [show (AH s u).rows.to.length=s.rows.length from E0 s u];exact (o1.ext a3).low (by omega)
  have o2':E.Ay w6 w.heap.size 3 1 (.slice cp s.cols.toNat cc) (AH s u).cols.to.length (Ac (AH s u).cols.to):=by
   rw [show (AH s u).cols.to.length=s.cols.toNat from JI s u _];exact (o2.ext a3).low (by omega)
  have af:=MI.snoc (s:=AH s u) g1 g2 g4 (a1.trans a0) o1' o2' (λb hb=>ah b (o1.lt hb).1) (λb hb=>ah b (o2.lt hb).1) a5 an (by rw [el];exact ae);rw [et] at af;obtain ⟨p7,c7,rfl⟩:=ae.slice;have a6:=(ad.ext a0).chg a5 aq;replace hS:=hS.same a5;apply LW.nil;refine QW.headed hS ?_;refine Cy ?_;refine GW.tail rfl (by kernel_rfl) (λhS=>?_);refine CH λw8 ag a6=>?_;replace a6:Blk w8 A [.slice (some a) p.length bc,.slice (some a2) c.length dc,.slice p7 (i+1) c7] 58:=a6;refine Sa ?_;exact QW.again (i+1,p7,c7) ⟨by show i+1≤_;omega,((ab.ext (a1.trans a0)).more a5 (λb hb=>(hV b hb).1)).same ag,af.chg ag (by simp;omega),a6⟩ BU (by show p.length - (i+1)<p.length - i;omega)
theorem TY (x y:Nat) (hx:x<18446744073709551616) (hy:y<18446744073709551616) (w:World):AL Tryz.prog 62 [.int .u64 x,.int .u64 y] w (λv w'=>v=.tuple #[.int .u64 ((x*y / 18446744073709551616:Nat):Int),.int .u64 ((x*y % 18446744073709551616:Nat):Int)]∧Ag w w'):=
 Ez (by kernel_rfl) (Tryz.bits_Mul x y hx hy w) λe w' ⟨he,hw⟩=>⟨_,he,rfl,by subst hw;exact Chg.refl _ _⟩
theorem Tz {z s:Value} {n c:Nat} (hn:n≤c):((List.replicate n s++List.replicate (c - n) z).take n++List.replicate (min n (c - n)) s++(List.replicate n s++List.replicate (c - n) z).drop (n+min n (c - n)))=List.replicate (n+min n (c - n)) s++List.replicate (c - (n+min n (c - n))) z:=by
 have e1:(List.replicate n s++List.replicate (c - n) z).take n=List.replicate n s:=by rw [List.take_append_of_le_length (by simp)];simp
 have e2:(List.replicate n s++List.replicate (c - n) z).drop (n+min n (c - n))=List.replicate (c - (n+min n (c - n))) z:=by
  rw [List.drop_append,List.drop_eq_nil_of_le (by simp),List.nil_append,List.drop_replicate,List.length_replicate]
  congr 1
  omega
 rw [e1,e2,List.replicate_append_replicate]
set_option maxRecDepth 8000 in
set_option maxHeartbeats 4000000 in
theorem O5 (id:List UInt8) (c A k:Nat) (w:World) (hA:Blk w A [Ap id] 9) (hc:c≤1000000):AL Tryz.prog 44 [.slice (some ⟨A,0,none⟩) 1 k,.int .i64 c] w (λv w'=>E.Ay w' w.heap.size 9 1 v c (List.replicate c (Ap id))∧Ag w w'):=by
 have ad:=hA.lt;refine Br Tryz.func44 Tryz.ntmps44 ?_;refine Sw ?_;refine AE rfl rfl (TY 1 c (by omega) (by omega) w) ?_;rintro v w1 ⟨rfl,a1⟩;rw [show 1*c / 18446744073709551616=0 by omega,show 1*c % 18446744073709551616=c by omega];replace hA:=hA.ext a1;refine Sw ?_;refine A4 (λh2=>?_) λh2=>?_
 ·have h2:(9223372036854775807:Int)<(c:Int):=of_decide_eq_true h2;omega
 refine Sw ?_;refine LW.makeSlice (m:=c) rfl rfl rfl rfl rfl rfl rfl (by omega) rfl rfl ?_;intro B w2 ae a4 hB;replace hA:=hA.ext a4;have af:=a1.size;have a2:=a1.trans a4;refine Sw ?_;refine LW.copy (g:=B) (off:=0) (cs:=List.replicate (min 1 c) (Ap id)) rfl rfl rfl rfl rfl rfl rfl hB (by simp) (λ_=>⟨rfl,_,rfl,λj v hj=>?_⟩) (by simp;omega) (λv hv=>by rw [(List.mem_replicate.1 hv).2];rfl) λw3 ab a3=>?_
 ·have a0:=(List.getElem?_eq_some_iff.1 hj).1;simp only [List.length_replicate] at a0;obtain rfl:j=0:=by omega
  rw [List.getElem?_replicate,if_pos a0] at hj;obtain rfl:=Option.some.inj hj;rw [Ao];exact hA.cell rfl
 simp only [List.length_replicate,List.take_zero,List.nil_append,List.drop_replicate,Nat.zero_add] at a3 ⊢;have ag:=a3.lt;refine Sw ?_;refine CW.loop (ι:=Nat) (λn w'=>n≤c∧(0<c→0<n)∧Chg [B] w2 w'∧Blk w' B (List.replicate n (Ap id)++List.replicate (c - n) (Ap [])) 9) (λn=>[(7,.slice (some ⟨B,0,none⟩) c c),(8,.int .i64 n)]) (λn=>c - n) (min 1 c) ⟨by omega,by omega,ab,a3⟩ Ml ?_;rintro n w4 ⟨hn,h0,a5,a6⟩;refine Sw ?_;refine A4 (λh2=>?_) λh2=>?_;rotate_left
 ·have h2:n=c:=by simp at h2;omega
  subst h2;refine Sw ?_;exact QW.body1 Tryz.results44 rfl ⟨⟨by simp,.inr ⟨B,n,[],rfl,by simpa using a6,Nat.le_refl _,by simp,by omega⟩⟩,a2.step a5 (by simp;omega)⟩
 have h2:n<c:=by simp at h2;omega
 have h3:=h0 (by omega);refine Sw ?_;refine CW.drawG (Chg [B] w4) 8 (λw' h=>h.chg) (by kernel_rfl) λwa a7=>?_;refine V7 0 ?_;refine V7 1 ?_;refine V7 2 ?_;refine GW.take 3 rfl rfl rfl rfl (λ_ _=>Y.slice_from (i:=n) rfl rfl rfl rfl rfl hn) rfl rfl (by kernel_rfl) (by kernel_rfl) (by kernel_rfl) (λ_ _ _ h=>h) ?_;refine V7 4 ?_;refine V7 5 ?_;refine GW.take 6 rfl rfl rfl rfl (λ_ _=>Y.slice_hi (j:=n) rfl rfl rfl rfl rfl hn) rfl rfl (by kernel_rfl) (by kernel_rfl) (by kernel_rfl) (λ_ _ _ h=>h) ?_;refine Fu 7 λhS=>?_;have a8:=a6.ext a7;refine LW.copy (g:=B) (off:=n) (cs:=List.replicate (min n (c - n)) (Ap id)) rfl rfl rfl rfl rfl rfl rfl a8 (by simp) (λ_=>⟨?_,_,rfl,λj v hj=>?_⟩) (by simp;omega) (λv hv=>by rw [(List.mem_replicate.1 hv).2];rfl) λw5 ac a9=>?_
 ·rw [if_neg (by omega)];show some (Addr.add ⟨B,0,none⟩ (n*1))=_;rw [Ao]
  congr 2
  omega
 ·have a0:=(List.getElem?_eq_some_iff.1 hj).1;simp only [List.length_replicate] at a0;rw [List.getElem?_replicate,if_pos a0] at hj;obtain rfl:=Option.some.inj hj;rw [Ao];refine a8.cell ?_;rw [Nat.zero_add,List.getElem?_append_left (by simp;omega),List.getElem?_replicate,if_pos (by omega)]
 rw [List.length_replicate,Tz hn] at a9;rw [List.length_replicate];have aa:Chg [B] w4 w5:=a7.chg.same ac;clear hS;apply LW.nil;refine QW.headed aa ?_;refine GW.tail rfl (by kernel_rfl) (λhS=>?_);refine Sw ?_;exact QW.again (n+min n (c - n)) ⟨by omega,by omega,a5.same aa,a9⟩ Ml (by omega)
set_option maxRecDepth 8000 in
set_option maxHeartbeats 4000000 in
theorem St (b:Ah) (sv:Value) (id:List UInt8) (w:World) (h:BR w sv b) (hid:id.length≤1000000):AL Tryz.prog 30 [.agg ⟨[sv]⟩,Ap id] w (λv w'=>∃rv f,Bl w.heap.size w' v (FI b id) rv f∧Ag w w'):=by
 obtain ⟨p,c,rfl⟩:=h.slice;have hl:=h.1;refine Br Tryz.func30 Tryz.ntmps30 ?_;apply CW.seq;apply CW.region;refine Sl ?_;refine Ei λA w1 bk ar hA=>?_;replace hA:Blk w1 A [.slice p b.length c] 29:=hA;have bl:=hA.lt;refine Sa ?_;refine LW.makeSlice (m:=b.length) rfl rfl rfl rfl rfl rfl rfl (by omega) rfl rfl ?_;intro B w2 bm ag hB;replace hA:=hA.ext ag;have ah:=ar.trans ag;have bn:=ar.size;have bo:=ag.size;have bp:=hB.lt;have b1:A∉[B]:=by simp;omega
 refine Sa ?_;refine CW.loop (ι:=Nat) (λi w'=>i≤b.length∧Chg [B] w2 w'∧∃rv f,Blk w' B ((List.range i).map rv++List.replicate (b.length - i) (.slice none 0 0)) 39∧Cv w2.heap.size w' i (tb (FI b id)) rv f [B]) (λi=>[(1,Ap id),(2,.pointer (some ⟨A,0,none⟩)),(5,.slice (some ⟨B,0,none⟩) b.length b.length),(15,.slice p b.length c),(16,.int .i64 b.length),(17,.int .i64 i)]) (λi=>b.length - i) 0 ⟨Nat.zero_le _,Chg.refl _ _,λ_=>.slice none 0 0,λ_ _=>0,by simpa using hB,Cv.zero⟩ GF ?_;rintro i w3 ⟨hi,ad,rv,f,au,a0⟩;have bq:=hA.chg ad b1;have br:=ad.size;have far:∀w',Chg [B] w2 w'→Ag w w':=λw' h=>ah.step h (by simp;omega);have a6:=far _ ad;refine Sw ?_;refine A4 (λh1=>?_) λh1=>?_;rotate_left
 ·have h1:i=b.length:=by simp at h1;omega
  subst h1;refine Sw ?_;refine QW.body1 Tryz.results30 rfl ⟨rv,f,⟨?_,?_,?_⟩,a6⟩
  ·rw [J9];exact ⟨by simp,.inr ⟨B,b.length,[],rfl,by simpa using au,Nat.le_refl _,by simp,by omega⟩⟩
  ·rw [J9];exact hl
  ·rw [P0,J9];exact ⟨λi s hi hs=>(a0.rows i s hi hs).low (by omega),a0.apartV,a0.apart⟩
 have h1:i<b.length:=by simp at h1;omega
 obtain ⟨s,hs⟩:∃s,b[i]?=some s:=⟨_,List.getElem?_eq_getElem h1⟩;have b2:=IB (Sm (id:=id) hs);obtain ⟨a,q,k,eqb,-,bs,hr,a1⟩:=AB.at h hs;subst eqb;have av:∀j u,(A1 s (.slice q s.rows.length k))[j]?=some u→w3.cell? ((a.add (((i:Nat):Int).toNat*3)).add j)=some u:=λj u hj=>Aw a6 (a1 j u hj);have b3:=hr.1;refine Sw ?_;refine D4 λX w4 bt b4 hX=>?_;refine Sw ?_;refine Cj λw5 b5 hX=>?_;replace hX:Blk w5 X (A1 s (.slice q s.rows.length k)) 41:=hX;have a7:Ag w3 w5:=b4.step b5 (by simp;omega);have bu:=hX.lt;refine Sa ?_;refine LW.makeSlice (m:=s.rows.length) rfl rfl rfl rfl rfl rfl rfl (by omega) rfl rfl ?_;intro M w6 bv aw hM;replace hX:=hX.ext aw;have a2:=a7.trans aw;have b6:=a7.size;have b7:=a2.size;have bw:=hM.lt;have b8:=au.ext a2;refine Sa ?_;refine LW.idx_slice (j:=i) rfl rfl rfl rfl rfl (by omega) (by omega) (by show 0+((i:Nat):Int).toNat*1=_;omega) rfl ?_;refine LW.store rfl rfl rfl b8 (Nat.ble_eq_true_of_le (by show i+1≤_;simp;omega)) rfl rfl λw7 ae ax=>?_;rw [Om (by simp) h1] at ax;have b9:=hM.chg ae (by simp;omega);have bx:=hX.chg ae (by simp;omega);have a3:Chg [B] w3 w7:=a2.chg.same ae;have a8:Chg [B] w2 w7:=ad.same a3;have ba:=a3.size;have bb:=ae.size;have ai:=far _ a8;refine Sa ?_;refine CW.loop (ι:=Nat) (λr w'=>r≤s.rows.length∧Chg [M] w7 w'∧∃xs g,Blk w' M (xs++List.replicate (s.rows.length - r) (.slice none 0 0)) 26∧BN w7.heap.size w' xs ((s.rows.map λr=>r.map λ_=>id).take r) g [M]) (λr=>[(1,Ap id),(2,.pointer (some ⟨A,0,none⟩)),(5,.slice (some ⟨B,0,none⟩) b.length b.length),(6,.int .i64 i),(15,.slice (some a) b.length c),(16,.int .i64 b.length),(17,.int .i64 i),(30,.slice q s.rows.length k),(31,.int .i64 s.rows.length),(32,.int .i64 r)]) (λr=>s.rows.length - r) 0 ⟨Nat.zero_le _,Chg.refl _ _,[],λ_=>0,by simpa using b9,BN.nil⟩ P8 ?_;rintro r w8 ⟨bz,a4,xs,g,aj,a5⟩;have c0:=a4.size;have ay:=ax.chg a4 (by simp;omega);have far2:∀w',Chg [M] w7 w'→Ag w w':=λw' h=>ai.step h (by simp;omega);have ak:=far2 _ a4;refine Sw ?_;refine A4 (λh2=>?_) λh2=>?_;rotate_left
 ·have h2:r=s.rows.length:=by simp at h2;omega
  subst h2;rw [List.take_of_length_le (by simp)] at a5;rw [Nat.sub_self,List.replicate_zero,List.append_nil] at aj;have af:=a5.len;have hF:BB w5.heap.size w8 (.slice (some ⟨M,0,none⟩) s.rows.length s.rows.length) (s.rows.map λr=>r.map λ_=>id) g:=⟨⟨xs,⟨by rw [af];simp,.inr ⟨M,s.rows.length,[],by simp,by simpa using aj,by simp,by simp,by omega⟩⟩,a5.low (by omega)⟩,by simpa using b3⟩;have al:=a0.chg a3 (λj t hj ht y hy=>a0.apartV j t hj ht y hy);have am:=al.chg a4 (λj t hj ht y hy=>by have:=((a0.rows j t hj ht).lt hy).2;simp;omega);have a9:=am.push b2 (hF.low (by omega)) (λx hx hb=>by
   have:=(hF.lt hx).1;simp at hb;omega) (λj t hj bc x hx hy=>by
   have:=((a0.rows j t hj bc).lt hx).2;have:=(hF.lt hy).1;omega)
  refine Sw ?_;refine QW.again (i+1) ⟨by omega,a8.more a4 (by simp;omega),_,_,?_,a9⟩ GF (by omega);rw [RA];exact ay
 have h2:r<s.rows.length:=by simp at h2;omega
 obtain ⟨row,aa⟩:∃r',s.rows[r]?=some r':=⟨_,List.getElem?_eq_getElem h2⟩;obtain ⟨ga,q1,c1,eqr,-,ht,an⟩:=Bc.at hr aa;subst eqr;have c2:=Aw ak an;have bd:=ht.1;have c3:w8.cell? ((⟨B,0,none⟩:Addr).add (((i:Nat):Int).toNat*1))=some (.slice (some ⟨M,0,none⟩) s.rows.length s.rows.length):=by
  rw [Ao];refine ay.cell ?_;rw [show 0+((i:Nat):Int).toNat*1=i by omega,List.append_assoc,List.getElem?_append_right (by simp)];simp
 refine Sw ?_;refine CW.drawG (Ag w8) 11 (λw' h=>h) (by kernel_rfl) λwa c4=>?_;refine Cy ?_;refine Fu 6 λhS=>?_;refine DG λC w9 c5 az hC=>?_;have b0:=hS.trans az;clear hS;apply LW.nil;refine QW.headed b0 ?_;refine Fu 9 λhS=>?_;refine AE rfl rfl (O5 id row.length C 1 _ hC (by omega)) ?_;rintro v be ⟨hR,ao⟩;obtain ⟨pv,cv,rfl⟩:=hR.slice;have ap:=hS.trans ao;clear hS;apply LW.nil;refine QW.headed ap ?_;refine Cy ?_;refine GW.tail rfl (by kernel_rfl) (λhS=>?_);have af:=a5.len;have bf:((s.rows.map λr=>r.map λ_=>id).take r).length=r:=by simp;omega
 rw [bf] at af;refine LW.store (i:=r) (by show some (Value.pointer (some (Addr.add ⟨M,0,none⟩ (((r:Nat):Int).toNat*1))))=_;rw [Ao];congr;omega) rfl rfl (aj.ext hS) (Nat.ble_eq_true_of_le (by show r+1≤_;simp;omega)) rfl rfl λc6 ab ac=>?_;rw [Om af h2] at ac;have c7:=hS.size;have c8:=az.size;have bg:E.Ay be w8.heap.size 9 1 (.slice pv row.length cv) (row.map λ_=>id).length ((row.map λ_=>id).map Ap):=by
  rw [Up,List.length_replicate,List.map_replicate];have bh:w8.heap.size≤w9.heap.size:=b0.size;exact hR.low bh
 obtain ⟨gR,bi,bj⟩:=I2 bg (by simpa using bd) (λt ht=>by
  simp only [List.mem_map] at ht;obtain ⟨_,_,rfl⟩:=ht;exact hid)
 have a9:=(a5.ext hS).push bi (λhn=>by
  obtain ⟨g1,sp,g2⟩:=bj hn;refine ⟨by omega,by simp;omega,λr' y aq hy hf=>?_,sp,g2⟩;obtain ⟨_,_,sp',h9⟩:=a5.blk r' y aq hy;have:=h9.lt;omega)
 obtain ⟨et,el⟩:=Qz (l:=s.rows.map λr=>r.map λ_=>id) (j:=r) (x:=row.map λ_=>id) (by rw [List.getElem?_map,aa];rfl);rw [et,el] at a9;refine Sw ?_;exact QW.again (r+1) ⟨by omega,(a4.ext hS).same ab,_,_,ac,a9.chg ab (λr' y aq hy=>(a9.blk r' y aq hy).2.1)⟩ P8 (by omega)
theorem Nn {m:BT} (h:KV m=true):m.Fine:=by
 simp only [KV,Bool.and_eq_true,decide_eq_true_eq] at h;exact ⟨by omega,by omega,by omega⟩
set_option maxRecDepth 8000 in
set_option maxHeartbeats 16000000 in
theorem QG (p c:Ah) (bp dp sp:Option Addr) (bc dc sc A:Nat) (had t00:Ar) (hv nv:Value) (rv:Nat→Value) (f:Nat→Nat→Nat) (wb w1 w:World) (g0:Cm wb) (hxb1:Ag wb w1) (hx1:Ag w1 w) (hp:BR wb (.slice bp p.length bc) p) (hc:BR wb (.slice dp c.length dc) c) (hmp:AX p=true) (hmc:AX c=true) (hA:Blk w A [.slice bp p.length bc,.slice dp c.length dc,.slice sp p.length sc] 58) (hAh:w1.heap.size≤A) (hh:H2 wb hv had) (hfit:CM had p) (hT1:Bl wb.heap.size w1 nv t00 rv f) (hf0:CM t00 c) (hSF:MI w1.heap.size w (.slice sp p.length sc) (A0 p c)) :
  AL Tryz.prog 32 [.pointer (some ⟨A,0,none⟩),hv,nv] w (λv w'=>v=.tuple #[]∧Bl wb.heap.size w' nv (CX p c had p.length t00) rv f∧∃S:List Nat,(∀b∈S,wb.heap.size≤b∧b<w1.heap.size)∧Chg S w w'):=by
 obtain ⟨an,ao,rfl⟩:=hh.slice;obtain ⟨op,oc,rfl⟩:=hT1.slice;have bh:t00.length=c.length:=by have:=congrArg List.length hf0;simpa using this
 rw [bh];have df:=(CY.1 hmp).1;have dg:=(CY.1 hmc).1;have ad:=RK hmp hmc;have dh:=hA.lt;have di:=hxb1.size;have bi:=hx1.size;have cj:=hxb1.trans hx1;obtain ⟨S0,al⟩:∃S0:List Nat,∀b,b∈S0↔wb.heap.size≤b∧b<w1.heap.size:=⟨List.range' wb.heap.size (w1.heap.size - wb.heap.size),λb=>by rw [List.mem_range'_1];omega⟩;have bj:A∉S0:=λh=>by have:=(al A).1 h;omega
 have c2:∀w',Chg S0 w w'→BS w' (.slice sp p.length sc) (A0 p c):=λw' hx=>(hSF.chg hx (λb hb=>((al b).1 hb).2)).list (by rw [EE];omega) (λs hs=>by have:=Q4 (ad s hs);omega);have a3:∀w',Chg S0 w w'→Ag wb w':=λw' hx=>cj.step hx (λb hb=>by have:=(al b).1 hb;omega);have hT:=hT1.ext hx1;rw [bh] at hT;clear hSF;obtain ⟨sa0,ck⟩:∃v,v=Value.slice sp p.length sc:=⟨_,rfl⟩;refine Br Tryz.func32 Tryz.ntmps32 ?_;refine Sw ?_;refine CW.loop (ι:=Nat) (λi w'=>i≤p.length∧Chg S0 w w'∧Bl wb.heap.size w' (.slice op c.length oc) (CX p c had i t00) rv f) (λi=>[(0,.pointer (some ⟨A,0,none⟩)),(1,.slice an had.length ao),(2,.slice op c.length oc),(19,.slice bp p.length bc),(20,.int .i64 p.length),(21,.int .i64 i)]) (λi=>p.length - i) 0 ⟨Nat.zero_le _,Chg.refl _ _,hT⟩ GF ?_;rintro i w5 ⟨hi,ap,c4⟩;have cl:=hA.chg ap bj;have aq:=a3 _ ap;have dj:=ap.size;refine Sw ?_;refine A4 (λh1=>?_) λh1=>?_;rotate_left
 ·have h1:i=p.length:=by simp at h1;omega
  subst h1;refine Sw ?_;exact QW.body_n (rs:=[]) (vs:=[]) Tryz.results32 trivial rfl ⟨rfl,c4,S0,λb hb=>(al b).1 hb,ap⟩
 have h1:i<p.length:=by simp at h1;omega
 obtain ⟨s,hs⟩:∃s,p[i]?=some s:=⟨_,List.getElem?_eq_getElem h1⟩;obtain ⟨a,q,k,eqb,-,dk,hr,ae⟩:=AB.at hp hs;subst eqb;have ar:∀j u,(A1 s (.slice q s.rows.length k))[j]?=some u→w5.cell? ((a.add (((i:Nat):Int).toNat*3)).add j)=some u:=λj u hj=>Aw aq (ae j u hj);have be:=EC (DB hmp hs);have dl:=be.rows;refine Sa ?_;refine Lo ?_;refine LW.load_cells rfl ar rfl rfl rfl rfl ?_;refine Sa ?_;refine D4 λX w6 dm c5 hX=>?_;have dn:=hX.lt;have dq:=c5.size;refine Sa ?_;refine Cj λw7 cm hX=>?_;replace hX:Blk w7 X (A1 s (.slice q s.rows.length k)) 41:=hX;have af:Ag w5 w7:=c5.step cm (by simp;omega);have c6:=cl.ext af;have c7:X∉S0:=λh=>by have:=(al X).1 h;omega
 refine Sa ?_;refine CW.drawG (Ag w7) 7 (λw' h=>h) (by kernel_rfl) λwa cn=>?_;refine Cy ?_;refine GW.take 3 rfl rfl rfl rfl (λw' co=>Y.load_cells rfl (EX (i:=1) (c6.ext co) rfl) rfl rfl rfl) rfl rfl (by kernel_rfl) (by kernel_rfl) (by kernel_rfl) (λ_ _ _ h=>h) ?_;refine Cy ?_;refine Fu 6 λhS=>?_;refine AE rfl rfl (MK c _ s.name _ (hc.ext ((aq.trans af).trans hS))) ?_;rintro v w8 ⟨rfl,cq⟩;have cr:=hS.trans cq;clear hS;apply LW.nil;refine QW.headed cr ?_;refine GW.tail rfl (by kernel_rfl) (λhS=>?_);have au:=af.trans hS;have av:Chg S0 w w8:=ap.ext au;have bk:=c4.ext au;have cs:=hX.ext hS;have ct:=c6.ext hS;clear hS hX;have hX:=cs
 cases hk:Ly c s.name with
 | none=>
  refine Sw ?_
  exact QW.again (i+1) ⟨by omega,av,by show Bl _ _ _ (CX p c had (i+1) _) _ _;rw [OR hs hk];exact bk⟩ GF (by omega)
 | some k'=>
  obtain ⟨u,hu,-⟩:=MU hk;have dr:=(List.getElem?_eq_some_iff.1 hu).1;have aw:=EC (DB hmc hu);have bl:(A0 p c)[i]?=some (AH s u):=by
   rw [Ht hs,hk];simp only [hu]
  have c8:CM (CX p c had i t00) c:=OQ hf0;obtain ⟨t0,c9⟩:∃t0,CX p c had i t00=t0:=⟨_,rfl⟩;rw [c9] at bk c8;rw [show Uq (some k')=(k':Int) from rfl];have cu:=ct;refine Sw ?_;refine CW.loop (ι:=Nat) (λr w'=>r≤s.rows.length∧Chg S0 w8 w'∧Bl wb.heap.size w' (.slice op c.length oc) (DY c (A0 p c) had i k' s (AH s u) r t0) rv f) (λr=>[(0,.pointer (some ⟨A,0,none⟩)),(1,.slice an had.length ao),(2,.slice op c.length oc),(6,.int .i64 i),(7,.pointer (some ⟨X,0,none⟩)),(8,.int .i64 k'),(19,.slice (some a) p.length bc),(20,.int .i64 p.length),(21,.int .i64 i),(36,.slice q s.rows.length k),(37,.int .i64 s.rows.length),(38,.int .i64 r)]) (λr=>s.rows.length - r) 0 ⟨Nat.zero_le _,Chg.refl _ _,bk⟩ UP ?_;rintro r w9 ⟨ds,bf,bm⟩;have ag:=av.same bf;have cv:=hX.chg bf c7;have cw:=cu.chg bf bj;have bn:=a3 _ ag;refine Sw ?_;refine A4 (λh2=>?_) λh2=>?_;rotate_left
  ·have h2:r=s.rows.length:=by simp at h2;omega
   subst h2;refine Sw ?_;exact QW.again (i+1) ⟨by omega,ag,by show Bl _ _ _ (CX p c had (i+1) _) _ _;rw [OS hs hk bl,c9];exact bm⟩ GF (by omega)
  have h2:r<s.rows.length:=by simp at h2;omega
  obtain ⟨row,a9⟩:∃r',s.rows[r]?=some r':=⟨_,List.getElem?_eq_getElem h2⟩;have ca:=be.wide row (List.mem_of_getElem? a9);have dt:=be.cols;have ax:CM (DY c (A0 p c) had i k' s (AH s u) r t0) c:=JX c8;obtain ⟨t1,cb⟩:∃t1,DY c (A0 p c) had i k' s (AH s u) r t0=t1:=⟨_,rfl⟩;rw [cb] at bm ax;obtain ⟨ga,q1,c1,eqr,-,bo,br⟩:=Bc.at hr a9;subst eqr;have du:=Aw bn br;refine Sw ?_;refine CW.loop (ι:=Nat) (λy w'=>y≤row.length∧Chg S0 w9 w'∧Bl wb.heap.size w' (.slice op c.length oc) (Dy c (A0 p c) had i k' s.name (AH s u) r row y t1) rv f) (λy=>[(0,.pointer (some ⟨A,0,none⟩)),(1,.slice an had.length ao),(2,.slice op c.length oc),(6,.int .i64 i),(7,.pointer (some ⟨X,0,none⟩)),(8,.int .i64 k'),(9,.int .i64 r),(19,.slice (some a) p.length bc),(20,.int .i64 p.length),(21,.int .i64 i),(36,.slice (some ga) s.rows.length k),(37,.int .i64 s.rows.length),(38,.int .i64 r),(43,.slice q1 row.length c1),(44,.int .i64 row.length),(45,.int .i64 y)]) (λy=>row.length - y) 0 ⟨Nat.zero_le _,Chg.refl _ _,bm⟩ (Af.cons rfl (Af.cons rfl (Af.cons rfl (Af.cons rfl (Af.cons rfl (Af.cons rfl (Af.cons rfl (Af.cons rfl (Af.cons rfl (Af.cons rfl (Af.cons rfl (Af.cons rfl (Af.cons rfl (Af.cons rfl (Af.cons rfl (Af.cons rfl (Af.nil))))))))))))))))) ?_;rintro y bs ⟨cx,a4,a5⟩;have a6:=ag.same a4;have ay:=cv.chg a4 c7;have az:=cw.chg a4 bj;have b0:=a3 _ a6;refine Sw ?_;refine A4 (λh3=>?_) λh3=>?_;rotate_left
  ·have h3:y=row.length:=by simp at h3;omega
   subst h3;refine Sw ?_;exact QW.again (r+1) ⟨by omega,bf.same a4,by show Bl _ _ _ (DY c (A0 p c) had i k' s (AH s u) (r+1) t0) _ _;rw [OU a9,cb];exact a5⟩ UP (by omega)
  have h3:y<row.length:=by simp at h3;omega
  obtain ⟨tx,cd⟩:∃t,row[y]?=some t:=⟨_,List.getElem?_eq_getElem h3⟩;have b1:CM (Dy c (A0 p c) had i k' s.name (AH s u) r row y t1) c:=JW ax;have a7:=OT (c:=c) (ss:=(A0 p c)) (had:=had) (i:=i) (k:=k') (r:=r) (nm:=s.name) (sh:=AH s u) (t:=t1) cd;obtain ⟨t2,bt⟩:∃t2,Dy c (A0 p c) had i k' s.name (AH s u) r row y t1=t2:=⟨_,rfl⟩;rw [bt] at a5 b1 a7;obtain ⟨gt,eqt,-,bh,bu⟩:=Au.at bo cd;subst eqt;have dv:=Aw b0 bu;obtain ⟨sa,rp,rc,cp,cc,esp,cy,cz,bg⟩:=BS.at (by rw [EE];exact c2 _ a6) bl;subst esp;have b2:=ad _ (List.mem_of_getElem? bl);have dw:∀j v,([.slice rp (AH s u).rows.to.length rc,.int .i64 (AH s u).rows.new]:List Value)[j]?=some v→bs.cell? (((sa.add (((i:Nat):Int).toNat*6)).add 1).add j)=some v:=λj v hj=>by
   rw [show ((i:Nat):Int).toNat=i by omega,Addr.add_add]
   match j,hj with
   | 0,hj=>exact bg 1 v hj
   | 1,hj=>exact bg 2 v hj
  have dx:∀j v,([.slice cp (AH s u).cols.to.length cc,.int .i64 (AH s u).cols.new]:List Value)[j]?=some v→bs.cell? (((sa.add (((i:Nat):Int).toNat*6)).add 3).add j)=some v:=λj v hj=>by
   rw [show ((i:Nat):Int).toNat=i by omega,Addr.add_add]
   match j,hj with
   | 0,hj=>exact bg 3 v hj
   | 1,hj=>exact bg 4 v hj
  obtain ⟨z1,bi⟩:∃z,(BM s u)[r]?=some z:=⟨_,List.getElem?_eq_getElem (by rw [E0];exact h2)⟩;obtain ⟨z2,b3⟩:∃z,(EO s u (BM s u))[y]?=some z:=⟨_,List.getElem?_eq_getElem (by rw [JI];omega)⟩;obtain ⟨ba1,ba2⟩:=HV be aw z1 (List.mem_of_getElem? bi);have dy:=aw.cols;have dz:=aw.rows;obtain ⟨bb1,bb2⟩:-1≤z2∧z2<u.cols:=by
   have h4:=HR (A8 s ((Bs s u (BM s u)).map Prod.fst)) (A8 u ((Bs s u (BM s u)).map Prod.snd)) (by simp [A8];omega) (by simp [A8];omega) z2 (List.mem_of_getElem? b3);have h5:(A8 u ((Bs s u (BM s u)).map Prod.snd)).length=u.cols.toNat:=by simp [A8]
   omega
  have ce:A9 (AH s u).rows (r:Int)=z1:=PT bi;have cf:A9 (AH s u).cols (y:Int)=z2:=PT b3;refine Sw ?_;refine CW.drawG (Ag bs) 20 (λw' h=>h) (by kernel_rfl) λwa cn=>?_;refine Cy ?_;refine Fu 9 λhS=>?_;refine AE rfl rfl (Eh (AH s u).rows (Nn b2.1) _ r (by omega) _ ⟨_,rfl,cy.ext hS⟩) ?_;rintro v bv ⟨rfl,bw⟩;rw [ce];have b4:=hS.trans bw;clear hS;apply LW.nil;refine QW.headed b4 ?_;refine Cy ?_;refine Fu 19 λhS=>?_;refine AE rfl rfl (Eh (AH s u).cols (Nn b2.2) _ y (by omega) _ ⟨_,rfl,cz.ext hS⟩) ?_;rintro v b5 ⟨rfl,a1⟩;rw [cf];have aa:=hS.trans a1;clear hS;apply LW.nil;refine QW.headed aa ?_;refine GW.tail rfl (by kernel_rfl) (λhS=>?_);have am:=hS;clear hS b4 aa;generalize b5=bv at am;refine Sa ?_;replace ay:=ay.ext am;replace az:=az.ext am;replace a5:=a5.ext am;have a8:=a6.ext am;have ab:=a3 _ a8;have hK:GP c (A0 p c) had i k' s.name (AH s u) r y tx t2=if 0≤z1∧0≤z2∧EZ u z1 z2=Ct s.name (A0 p c) tx then Jj t2 k' z1.toNat z2.toNat (JR had i r y) else t2:=by
   unfold GP;simp only [ce,cf,Dl hu]
  obtain ⟨bq,b6⟩:∃bq:Bool,bq=decide (0≤z1∧0≤z2∧EZ u z1 z2=Ct s.name (A0 p c) tx):=⟨_,rfl⟩;refine CW.cut (ι:=Unit) (λ_ w'=>Ag bv w') (λ_=>[(0,.pointer (some ⟨A,0,none⟩)),(1,.slice an had.length ao),(2,.slice op c.length oc),(6,.int .i64 i),(7,.pointer (some ⟨X,0,none⟩)),(8,.int .i64 k'),(9,.int .i64 r),(11,.int .i64 y),(13,.int .i64 z1),(14,.int .i64 z2),(19,.slice (some a) p.length bc),(20,.int .i64 p.length),(21,.int .i64 i),(36,.slice (some ga) s.rows.length k),(37,.int .i64 s.rows.length),(38,.int .i64 r),(43,.slice (some gt) row.length c1),(44,.int .i64 row.length),(45,.int .i64 y),(101,.bool bq)]) ?_ ?_
  ·obtain ⟨a2,q2,k2,eq2,-,-,d0,ah⟩:=AB.at (AB.ext hc ab) hu;subst eq2;have d1:=ah 2 _ rfl;refine CW.drawG (Ag bv) 31 (λw' h=>h) (by kernel_rfl) λe0 d2=>?_;refine Cy ?_;by_cases ai:0≤z1;rotate_left
   ·have hb:bq=false:=by rw [b6];exact decide_eq_false λh=>ai h.1
    refine GW.know (t:=72) (c:=false) rfl (by simp;omega) ?_;refine Cy ?_;refine Wa 29 ?_;refine Cy ?_;refine GW.tail rfl (by kernel_rfl) (λhS=>?_);refine Sa ?_;exact QW.head () hS (by rw [hb];exact ((Af.cons rfl (Af.cons rfl (Af.cons rfl (Af.cons rfl (Af.cons rfl (Af.cons rfl (Af.cons rfl (Af.cons rfl (Af.cons rfl (Af.cons rfl (Af.cons rfl (Af.cons rfl (Af.cons rfl (Af.cons rfl (Af.cons rfl (Af.cons rfl (Af.cons rfl (Af.cons rfl (Af.cons rfl (Af.cons rfl (Af.nil)))))))))))))))))))))))
   refine GW.know (t:=72) (c:=true) rfl (by simp;omega) ?_;refine Cy ?_;by_cases aj:0≤z2;rotate_left
   ·have hb:bq=false:=by rw [b6];exact decide_eq_false λh=>aj h.2.1
    refine GW.know (t:=76) (c:=false) rfl (by simp;omega) ?_;refine Cy ?_;refine Wa 29 ?_;refine Cy ?_;refine GW.tail rfl (by kernel_rfl) (λhS=>?_);refine Sa ?_;exact QW.head () hS (by rw [hb];exact ((Af.cons rfl (Af.cons rfl (Af.cons rfl (Af.cons rfl (Af.cons rfl (Af.cons rfl (Af.cons rfl (Af.cons rfl (Af.cons rfl (Af.cons rfl (Af.cons rfl (Af.cons rfl (Af.cons rfl (Af.cons rfl (Af.cons rfl (Af.cons rfl (Af.cons rfl (Af.cons rfl (Af.cons rfl (Af.cons rfl (Af.nil)))))))))))))))))))))))
   obtain ⟨rowc,a0⟩:∃r,u.rows[z1.toNat]?=some r:=⟨_,List.getElem?_eq_getElem (by omega)⟩;have d4:=aw.wide rowc (List.mem_of_getElem? a0);obtain ⟨tc,b7⟩:∃r,rowc[z2.toNat]?=some r:=⟨_,List.getElem?_eq_getElem (by omega)⟩;obtain ⟨gc,q3,c3,eq3,-,bt,bx⟩:=Bc.at d0 a0;subst eq3;rw [show ((z1.toNat:Nat):Int).toNat=z1.toNat by omega] at bx;obtain ⟨gd,eq4,-,-,d5⟩:=Au.at bt b7;subst eq4;rw [show ((z2.toNat:Nat):Int).toNat=z2.toNat by omega] at d5;have d6:EZ u z1 z2=tc:=by rw [EZ,Dl a0,Dl b7]
   refine GW.know (t:=76) (c:=true) rfl (by simp;omega) ?_;refine Cy ?_;refine Fu 29 λhS=>?_;refine Lb ?_;refine AE rfl rfl (Pc tx s.name (A0 p c) _ (by omega) _ (g0.ext (ab.trans hS)) (c2 _ (a8.ext hS)) ad) ?_;rintro v b5 ⟨rfl,a1⟩;have aa:=hS.trans a1;clear hS;apply LW.nil;refine QW.headed aa ?_;refine Cy ?_;refine GW.tail rfl (by kernel_rfl) (λhS=>?_);have hb:bq=decide (tc=Ct s.name (A0 p c) tx):=by
    rw [b6,d6];by_cases e:tc=Ct s.name (A0 p c) tx
    ·simp [ai,aj,e]
    ·simp [e]
   refine Sa ?_;exact QW.head () hS (by rw [hb];exact ((Af.cons rfl (Af.cons rfl (Af.cons rfl (Af.cons rfl (Af.cons rfl (Af.cons rfl (Af.cons rfl (Af.cons rfl (Af.cons rfl (Af.cons rfl (Af.cons rfl (Af.cons rfl (Af.cons rfl (Af.cons rfl (Af.cons rfl (Af.cons rfl (Af.cons rfl (Af.cons rfl (Af.cons rfl (Af.cons rfl (Af.nil)))))))))))))))))))))))
  rintro ⟨⟩ b5 a1;show CW _ _ _ _ _ [(0,.pointer (some ⟨A,0,none⟩)),(1,.slice an had.length ao),(2,.slice op c.length oc),(6,.int .i64 i),(7,.pointer (some ⟨X,0,none⟩)),(8,.int .i64 k'),(9,.int .i64 r),(11,.int .i64 y),(13,.int .i64 z1),(14,.int .i64 z2),(19,.slice (some a) p.length bc),(20,.int .i64 p.length),(21,.int .i64 i),(36,.slice (some ga) s.rows.length k),(37,.int .i64 s.rows.length),(38,.int .i64 r),(43,.slice (some gt) row.length c1),(44,.int .i64 row.length),(45,.int .i64 y),(101,.bool bq)] _;have b8:=a8.ext a1;have b9:=a3 _ b8;have ak:=a5.ext a1;have ac:Chg S0 w9 b5:=(a4.ext am).ext a1;refine Sa ?_;refine A4 (λh4=>?_) λh4=>?_;rotate_left
  ·rw [b6] at h4;rw [if_neg (of_decide_eq_false h4)] at hK;refine Sw ?_;exact QW.again (y+1) ⟨by omega,ac,by show Bl _ _ _ (Dy _ _ _ _ _ _ _ _ _ (y+1) _) _ _;rw [a7,hK];exact ak⟩ (Af.cons rfl (Af.cons rfl (Af.cons rfl (Af.cons rfl (Af.cons rfl (Af.cons rfl (Af.cons rfl (Af.cons rfl (Af.cons rfl (Af.cons rfl (Af.cons rfl (Af.cons rfl (Af.cons rfl (Af.cons rfl (Af.cons rfl (Af.cons rfl (Af.nil))))))))))))))))) (by omega)
  rw [b6] at h4;have cg:=of_decide_eq_true h4;rw [if_pos cg] at hK;obtain ⟨ai,aj,-⟩:=cg;obtain ⟨rowc,a0⟩:∃r,u.rows[z1.toNat]?=some r:=⟨_,List.getElem?_eq_getElem (by omega)⟩;have d4:=aw.wide rowc (List.mem_of_getElem? a0);obtain ⟨Fk,xT,e1,e2,e3,e4⟩:=b1.at hu a0;obtain ⟨TB,tb',TM,tm,tx',eqv,e9,d7,d8,tsp,d9⟩:=ak.at e1 e2 (λe=>by rw [e] at e3;simp at e3;omega);obtain ⟨rfl,-,-⟩:=Value.slice.inj eqv;rw [show ((z1.toNat:Nat):Int).toNat=z1.toNat by omega] at d7;obtain ⟨rowsH,xH,e5,e6,e7,e8⟩:=hfit.at hs a9;obtain ⟨ea,eb,ec,rfl,da,ed⟩:=H2.at (H2.ext hh b9) e5;obtain ⟨ee,ef,eg,rfl,-,bz,eh⟩:=Bc.at da e6;obtain ⟨vH,ci⟩:∃v,xH[y]?=some v:=⟨_,List.getElem?_eq_getElem (by omega)⟩;obtain ⟨ei,rfl,-,db,ej⟩:=Au.at bz ci;have ek:=(List.getElem?_eq_some_iff.1 e5).1;have el:=(List.getElem?_eq_some_iff.1 e1).1;refine Sw ?_;refine CW.drawG (Ag b5) 19 (λw' h=>h) (by kernel_rfl) λwc em=>?_;refine Cy ?_;refine GW.tail rfl (by kernel_rfl) (λhS=>?_);refine LW.store (i:=0+z2.toNat*1) (by show some (Value.pointer (some (Addr.add ⟨f k' z1.toNat,0,none⟩ (z2.toNat*1))))=_;rw [Ao]) rfl rfl (d9.ext hS) (Nat.ble_eq_true_of_le (by show _+1≤_;rw [List.length_append,List.length_map];omega)) rfl rfl λdd ba bb=>?_;rw [show 0+z2.toNat*1=z2.toNat by omega,List.set_append_left _ _ (by rw [List.length_map];omega),←List.map_set] at bb;have c0:=(ak.ext hS).set e1 e2 (by omega) db ba bb;have de:f k' z1.toNat∈S0:=(al _).2 ⟨d8,by
   obtain ⟨rows0,x0,f1,f2,f3,f4⟩:=hf0.at hu a0;obtain ⟨_,_,_,_,_,_,_,_,_,_,h9⟩:=hT1.at f1 f2 (λe=>by rw [e] at f3;simp at f3;omega);exact h9.lt⟩
  have bd:Chg S0 w9 dd:=(ac.ext hS).same (ba.mono λb hb _=>by simp only [List.mem_singleton] at hb;rw [hb];exact de);refine Sw ?_;exact QW.again (y+1) ⟨by omega,bd,by show Bl _ _ _ (Dy _ _ _ _ _ _ _ _ _ (y+1) _) _ _;rw [a7,hK,PN e5 e6 ci];exact c0⟩ (Af.cons rfl (Af.cons rfl (Af.cons rfl (Af.cons rfl (Af.cons rfl (Af.cons rfl (Af.cons rfl (Af.cons rfl (Af.cons rfl (Af.cons rfl (Af.cons rfl (Af.cons rfl (Af.cons rfl (Af.cons rfl (Af.cons rfl (Af.cons rfl (Af.nil))))))))))))))))) (by omega)
theorem N6:∀(r:List (List UInt8×Ah)) (st:Ah×Ar),(r.foldl (λ(st:Ah×Ar) x=>(x.2,Fq st.1 x.2 x.1 st.2)) st).1=((r.getLast?).map Prod.snd).getD st.1
 | [],st=>rfl
 | [x],st=>rfl
 | x::y::r,st=>by
  rw [List.foldl_cons,N6 (y::r),List.getLast?_cons_cons]
  cases h:(y::r).getLast? with
  | none=>simp at h
  | some z=>rfl
theorem OX (x0 x:List UInt8×Ah) (r:List (List UInt8×Ah)):Ev (x0::(r++[x]))=Fq (((x0::r).getLast?).map Prod.snd |>.getD []) x.2 x.1 (Ev (x0::r)):=by
 obtain ⟨id,b⟩:=x0;show ((r++[x]).foldl (λ(st:Ah×Ar) x=>(x.2,Fq st.1 x.2 x.1 st.2)) (b,FI b id)).2=_;rw [List.foldl_append];show Fq (r.foldl (λ(st:Ah×Ar) x=>(x.2,Fq st.1 x.2 x.1 st.2)) (b,FI b id)).1 x.2 x.1 _=_;rw [N6]
 congr 1
 cases r with
 | nil=>rfl
 | cons y r=>
  rw [List.getLast?_cons_cons]
  cases h:(y::r).getLast? with
  | none=>simp at h
  | some z=>rfl
theorem OW (x:List UInt8×Ah):CM (Ev [x]) x.2:=Io x.2 x.1
def Nt:Option Nat→Int
 | some i=>i
 | none=>-1
theorem MW {l:As} {id:List UInt8} (h:∀j d,j<l.length→l[j]?=some d→d.id≠id):D6 l id=none:=by
 cases e:D6 l id with
 | none=>rfl
 | some k=>
  obtain ⟨c,h1,h2,-⟩:=Es e;exact absurd h2 (h k c (List.getElem?_eq_some_iff.1 h1).1 h1)
def SL (l:As) (k:Nat):List UInt8:=(l[k]?.map Ax.id).getD []
def BC (l:As) (id:List UInt8):List (List UInt8):=(Bz l id).map (SL l)
theorem Mv {l:As} {k:Nat} {c:Ax} (h:l[k]?=some c):SL l k=c.id:=by rw [SL,h];rfl
theorem Kh {l:As} (h:Ew l=true) {k:Nat} {c:Ax} (hc:l[k]?=some c):CF l l.length (some k)=k::match c.parents with
  | []=>[]
  | p::_=>CF l l.length (D6 l p):=by
 have hk:=(List.getElem?_eq_some_iff.1 hc).1;obtain ⟨n,hn⟩:∃q,l.length=q+1:=⟨l.length - 1,by omega⟩;rw [hn,CF,hc]
 congr 1
 simp only
 cases hp:c.parents with
 | nil=>rfl
 | cons p r=>
  simp only;obtain ⟨j,hj,a0⟩:=DO h hc (p:=p) (by rw [hp];exact List.mem_cons_self ..);rw [hj];exact OY h j n (n+1) (by omega) (by omega) (by omega)
def SW:Option Nat→Nat
 | some k=>k+1
 | none=>0
theorem Kg (l:As) (n:Nat):CF l n none=[]:=by cases n<;>rfl
theorem Rk (l:As) (h:Ew l=true):∀(k:Nat),k<l.length→(CF l l.length (some k)).length≤k+1:=by
 intro k
 induction k using Nat.strongRecOn with
 | _ k ih=>
  intro hk;obtain ⟨c,hc⟩:∃c,l[k]?=some c:=⟨_,List.getElem?_eq_getElem hk⟩;rw [Kh h hc]
  cases hp:c.parents with
  | nil=>simp
  | cons p r=>
   obtain ⟨j,hj,a0⟩:=DO h hc (p:=p) (by rw [hp];exact List.mem_cons_self ..);have:=ih j a0 (by omega);simp only [hj,List.length_cons];omega
theorem LG {l:As} (h:Ew l=true) (id:List UInt8):(Bz l id).length≤l.length:=by
 unfold Bz
 cases e:D6 l id with
 | none=>rw [Kg];simp
 | some k=>have:=Rk l h k (GT e);have:=GT e;omega
theorem Kf {xs:List (List UInt8×Ah)} {y:List UInt8×Ah} (x:List UInt8×Ah) (h:xs.getLast?=some y):Ev (xs++[x])=Fq y.2 x.2 x.1 (Ev xs):=by
 cases xs with
 | nil=>simp at h
 | cons x0 r=>
  rw [List.cons_append,OX,h];rfl
theorem N4:∀(n:Nat) {xs:List (List UInt8×Ah)} {y:List UInt8×Ah},xs.length=n→xs.getLast?=some y→CM (Ev xs) y.2
 | 0,xs,y,hl,h=>by
  have:xs=[]:=List.eq_nil_of_length_eq_zero hl;subst this
  simp at h
 | n+1,xs,y,hl,h=>by
  obtain ⟨zs,z,rfl⟩:∃zs z,xs=zs++[z]:=⟨xs.dropLast,y,by
   have hn:xs≠[]:=λe=>by rw [e] at hl;simp at hl
   rw [List.getLast?_eq_some_getLast hn] at h;obtain rfl:=Option.some.inj h;exact (List.dropLast_concat_getLast hn).symm⟩
  rw [List.getLast?_append] at h;simp at h;subst h
  cases hz:zs.getLast? with
  | none=>
   have:zs=[]:=by simpa using hz
   subst this
   exact OW z
  | some u=>
   rw [Kf z hz];exact KI _ _ _ _
def Iq (l:As) (k:Nat):List UInt8×Ah:=match l[k]? with
 | some c=>(c.id,c.book)
 | none=>([],[])
theorem Gv {l:As} {k:Nat} {c:Ax} (h:l[k]?=some c):Iq l k=(c.id,c.book):=by rw [Iq,h]
noncomputable def GV (l:As) (id:List UInt8):Ar:=Ev ((Bz l id).reverse.map (Iq l))
theorem Mz {l:As} {id:List UInt8}:∀k∈Bz l id,k<l.length:=λk hk=>N5 _ _ (λ_ h=>GT h) k hk
theorem PW {l:As} (hm:Ew l=true) {id:List UInt8} {i k:Nat} (h:(Bz l id)[i]?=some k):∃c,l[k]?=some c∧(BC l id)[i]?=some c.id∧D6 l c.id=some k:=by
 have hk:=Mz k (List.mem_of_getElem? h);obtain ⟨c,hc⟩:∃c,l[k]?=some c:=⟨_,List.getElem?_eq_getElem hk⟩;refine ⟨c,hc,?_,Km hm hc⟩;rw [BC,List.getElem?_map,h];exact congrArg some (Mv hc)
theorem Rl (l:As) (id:List UInt8):(BC l id).length=(Bz l id).length:=by rw [BC,List.length_map]
def DX (l:As) (id:List UInt8) (i:Nat):List (List UInt8×Ah):=((Bz l id).drop i).reverse.map (Iq l)
theorem GY {l:As} {id:List UInt8} {i k:Nat} (h:(Bz l id)[i]?=some k):DX l id i=DX l id (i+1)++[Iq l k]:=by
 have hi:=(List.getElem?_eq_some_iff.1 h).1;have e:(Bz l id).drop i=k::(Bz l id).drop (i+1):=by
  rw [List.drop_eq_getElem_cons hi]
  congr 1
  exact (List.getElem?_eq_some_iff.1 h).2
 rw [DX,e,List.reverse_cons,List.map_append];rfl
theorem GX {l:As} {id:List UInt8} {i k:Nat} (h:(Bz l id)[i]?=some k):(DX l id i).getLast?=some (Iq l k):=by
 rw [GY h,List.getLast?_append];rfl
theorem QV {l:As} {id:List UInt8} {i k:Nat} (h:(Bz l id)[i]?=some k) (hi:i+1=(Bz l id).length):DX l id i=[Iq l k]:=by
 rw [GY h,DX,hi,List.drop_length];rfl
theorem OG {l:As} {id:List UInt8} {i k j:Nat} {c p:Ax} (hk:(Bz l id)[i]?=some k) (hj:(Bz l id)[i+1]?=some j) (hc:l[k]?=some c) (hp:l[j]?=some p):Ev (DX l id i)=Fq p.book c.book c.id (Ev (DX l id (i+1))):=by
 rw [GY hk,Kf _ (GX hj),Gv hc,Gv hp]
theorem OE {l:As} {id:List UInt8} {j:Nat} {i:Nat} {p:Ax} (hj:(Bz l id)[i]?=some j) (hp:l[j]?=some p):CM (Ev (DX l id i)) p.book:=by
 have:=N4 _ rfl (GX hj)
 rwa [Gv hp] at this
theorem TJ {lo:Nat} {w:World} {rv:Nat→Value} {f:Nat→Nat→Nat}:Bl lo w (.slice none 0 0) [] rv f:=⟨E.Ay.nil _ _ _ _,by simp,Cv.zero⟩
theorem Bl.low {lo lo':Nat} {w:World} {v:Value} {t:Ar} {rv:Nat→Value} {f:Nat→Nat→Nat} (h:Bl lo w v t rv f) (hl:lo'≤lo):Bl lo' w v t rv f:=⟨h.own.low hl,h.small,⟨λj s hj hs=>(h.sub.rows j s hj hs).low hl,h.sub.apartV,h.sub.apart⟩⟩
theorem OZ {l:As} {w:World} {v:Value} (h:CB w v l) (id:List UInt8):∀s∈BC l id,s.length≤1000000:=λs hs=>by
 obtain ⟨k,hk,rfl⟩:=List.mem_map.1 hs;obtain ⟨c,hc⟩:∃c,l[k]?=some c:=⟨_,List.getElem?_eq_getElem (Mz k hk)⟩;rw [Mv hc];exact (h.may c (List.mem_of_getElem? hc)).2
end Go.Proofs.YtefaigjfkddelaaGreatDoor
