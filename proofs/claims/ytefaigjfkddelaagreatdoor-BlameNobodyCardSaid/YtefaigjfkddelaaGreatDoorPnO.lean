/-
  Joined by program out of the texts BlaH Bla2 Rep Blb1 Blb2 BlaL Pas1 BlaM BlmS.
-/
import Derived.Test.YtefaigjfkddelaaGreatDoorPnL
import Derived.Test.YtefaigjfkddelaaGreatDoorPnJ
import Derived.Test.YtefaigjfkddelaaGreatDoorPnI
import Derived.Test.YtefaigjfkddelaaGreatDoorPnA
import Derived.Test.YtefaigjfkddelaaGreatDoorPnH
import Derived.Test.YtefaigjfkddelaaGreatDoorPnE
namespace Go.Proofs.YtefaigjfkddelaaGreatDoor
open Tryz
open Go Go.E
theorem G7{s:Af}(h:AJ s=true):Dy s:=by
 simp only[AJ,Abf,decide_eq_true_eq,Ac2] at h;obtain⟨⟨⟨⟨h1,h2⟩,h3⟩,h4⟩,h5⟩:=h;exact⟨by omega,⟨h2,by omega⟩,λr hr=>(h5 r hr).1,λr hr t ht=>by have:=NT ((h5 r hr).2 t ht);omega⟩
theorem EV{b:Ag}(h:A5 b=true){i:Nat}{s:Af}(hs:b[i]?=some s):AJ s=true:=(AP.1 h).2.1 s (Aa9 hs)
theorem Xl{p c:Ag}(hp:A5 p=true)(hc:A5 c=true):∀s∈AL p c,s.May:=λsh hsh=>by
 obtain⟨i,hi⟩:=Acy hsh;have hil:i<p.length:=by have:=(Aav.1 hi).1;rwa [GF] at this
 obtain⟨s,hs⟩:∃s,p[i]?=some s:=⟨_,Aak hil⟩;rw[Ka hs] at hi;obtain rfl:=Aa5 hi;have a0:BP.May ⟨s.name,⟨[],0⟩,⟨[],0⟩,true⟩:=⟨rfl,rfl⟩
 split
 ·exact a0
 ·rename_i k hk
  split
  ·exact a0
  ·rename_i u hu;exact UP (EV hp hs) (EV hc hu)
theorem VR{s:BP}(h:s.May):s.rows.to.length≤1048576∧s.cols.to.length≤1048576:=by
 obtain⟨h1,h2⟩:=h;simp only[Ij,Abf,decide_eq_true_eq] at h1 h2;exact⟨h1.1.2,h2.1.2⟩
theorem Hf{w:World}{A i:Nat}{cs:List Value}{T:TypeId}{sv:Value}(h:Blk w A cs T)(hc:cs[i]?=some sv):∀j u,([sv]:List Value)[j]?=some u→w.cell? ((⟨A,i,none⟩:Addr).add j)=some u:=λj u hj=>by
 cases j with
 | zero=>
  obtain rfl:=Aa5 hj;rw[An]
  exact h.cell hc
 | succ j=>simp at hj
set_option maxRecDepth 8000 in
set_option maxHeartbeats 40000000 in
theorem TU(p c:Ag)(bp dp:Option Addr)(bc dc A:Nat)(w0 w:World)(hx0:Ae w0 w)(hAn:w0.heap.size≤A)(hp:B5 w0 (.slice bp p.length bc) p)(hc:B5 w0 (.slice dp c.length dc) c)(hmp:A5 p=true)(hmc:A5 c=true)(hA:Blk w A [.slice bp p.length bc,.slice dp c.length dc,.slice none 0 0] 58) :
  AF prog 31 [.pointer (some ⟨A,0,none⟩)] w (λv w'=>v=.tuple #[]∧∃sp sc,QN w.heap.size w' (.slice sp p.length sc) (AL p c)∧Blk w' A [.slice bp p.length bc,.slice dp c.length dc,.slice sp p.length sc] 58∧Chg [A] w w'):=by
 have b5:=(AP.1 hmp).1;have b6:=(AP.1 hmc).1;have b7:=hA.lt;have far:∀w',Chg [A] w w'→Ae w0 w':=λw' h=>hx0.step h Ae0;refine AQ func31 ntmps31 ?_;refine Sw ?_;refine CW.loop (ι:=Nat×Option Addr×Nat) (λx w'=>x.1≤p.length∧Chg [A] w w'∧QN w.heap.size w' (.slice x.2.1 x.1 x.2.2) ((AL p c).take x.1)∧Blk w' A [.slice bp p.length bc,.slice dp c.length dc,.slice x.2.1 x.1 x.2.2] 58) (λx=>[(0,.pointer (some ⟨A,0,none⟩)),(9,.slice bp p.length bc),(10,.int .i64 p.length),(11,.int .i64 x.1)]) (λx=>p.length - x.1) (0,none,0) ⟨Ac8 _,Chg.refl _ _,QN.nil,hA⟩ B9 ?_;rintro⟨i,op,oc⟩ w1 ⟨hi,ab,ai,aj⟩;dsimp only at hi ai aj;show CW _ _ _ _ _ [(0,.pointer (some ⟨A,0,none⟩)),(9,.slice bp p.length bc),(10,.int .i64 p.length),(11,.int .i64 (i:Int))] _;have a7:=far _ ab;have b8:=ab.size;refine Sw ?_;refine Av (λh1=>?_) λh1=>?_;rotate_left
 ·have h1:i=p.length:=by simp at h1;omega
  subst h1;rw[AcC (by rw[GF];exact Ab9 _)] at ai;refine Sw ?_;exact QW.body_n (rs:=[]) (vs:=[]) results31 trivial rfl ⟨rfl,op,oc,ai,aj,ab⟩
 have h1:i<p.length:=by simp at h1;omega
 obtain⟨s,hs⟩:∃s,p[i]?=some s:=⟨_,Aak h1⟩;obtain⟨a,q,k,eqb,-,b9,hr,a8⟩:=Ak.at hp hs;subst eqb;have ac:∀j u,(Ap s (.slice q s.rows.length k))[j]?=some u→w1.cell? ((a.add (((i:Nat):Int).toNat*3)).add j)=some u:=λj u hj=>Aw a7 (a8 j u hj);have av:=G7 (EV hmp hs);have aw:=Ka (c:=c) hs;obtain⟨et,el⟩:=VL aw;obtain⟨css,g1,g2,g3,g4⟩:=ai;rw[el] at g3;have hV:∀b,b∈Ac (Value.slice op i oc)→w.heap.size≤b∧b<w1.heap.size:=λb hb=>g3.lt hb;have aq:A∉Ac (Value.slice op i oc):=λh=>by have:=(hV A h).1;omega
 refine Sa ?_;refine Lo ?_;refine LW.load_cells rfl ac rfl rfl rfl rfl ?_;refine Sa ?_;refine BX λX w2 ba ar hX=>?_;have bb:=hX.lt;have bd:=ar.size;refine Sa ?_;refine AR λw3 ax hX=>?_;replace hX:Blk w3 X (Ap s (.slice q s.rows.length k)) 41:=hX;have a9:Ae w1 w3:=ar.step ax Ae0;have ad:=aj.ext a9;refine Sa ?_;refine CW.drawG (Ae w3) 7 (λw' h=>h) Ae1 λwa be=>?_;refine BD ?_;refine GW.take 3 rfl rfl rfl rfl (λw' ak=>Y.load_cells rfl (Hf (i:=1) (ad.ext ak) rfl) rfl rfl rfl) rfl rfl Ae1 Ae1 Ae1 (λ_ _ _ h=>h) ?_;refine BD ?_;refine DR 6 λhS=>?_;refine Ax rfl rfl (QO c _ s.name _ (hc.ext ((a7.trans a9).trans hS))) ?_;rintro v w4 ⟨rfl,ay⟩;have az:=hS.trans ay;clear hS;apply LW.nil;refine QW.headed az ?_;refine GW.tail rfl Ae1 (λhS=>?_);have a1:=a9.trans hS;replace ad:=ad.ext hS;replace hX:=hX.ext hS;have b0:=a1.size;have bf:X∉Ac (Value.slice op i oc):=λh=>by have:=(hV X h).2;omega
 clear hS
 cases hk:IW c s.name with
 | none=>
  rw[hk] at et;simp only at et;refine Sw ?_;refine CW.drawG (Chg (Ac (Value.slice op i oc)) w4) 12 (λw' h=>h.chg) Ae1 λwb al=>?_;refine Sg ?_;refine BD ?_;refine Sg ?_;refine BD ?_;refine DR 8 λhS=>?_;refine Cx λD w6 b1 a3 hD=>?_;have b2:=a3.size;replace hD:Blk w6 D (KZ ⟨s.name,⟨[],0⟩,⟨[],0⟩,true⟩ (.slice none 0 0) (.slice none 0 0)) 73:=hD;have a4:Ae w4 wb:=al;have a0:Ae w4 w6:=a4.trans a3;have am:=a0.size;replace hS:=hS.ext a3;apply LW.nil;refine QW.headed hS ?_;refine DR 9 λhS=>?_;refine LW.append (lo:=w.heap.size) (k:=i) rfl rfl rfl rfl rfl rfl ((g3.ext a1).ext a0) Aez hD rfl rfl rfl (by show(_+1)*89≤_;omega) rfl ?_;intro v7 w7 a5 ae an;have af:=QN.snoc (s:=⟨s.name,⟨[],0⟩,⟨[],0⟩,true⟩) g1 g2 g4 (a1.trans a0) (E.A3.nil _ _ _ _) (E.A3.nil _ _ _ _) AeM AeM a5 an (by rw[el];exact ae);rw[et] at af;obtain⟨p7,c7,rfl⟩:=ae.slice;have a6:=(ad.ext a0).chg a5 aq;replace hS:=hS.same a5;apply LW.nil;refine QW.headed hS ?_;refine BD ?_;refine GW.tail rfl Ae1 (λhS=>?_);refine BO λw8 ag a6=>?_;replace a6:Blk w8 A [.slice (some a) p.length bc,.slice dp c.length dc,.slice p7 (i+1) c7] 58:=a6;refine Sa ?_
  exact QW.again (i+1,p7,c7) ⟨by show i+1≤_;omega,((ab.ext (a1.trans a0)).more a5 (λb hb=>(hV b hb).1)).same ag,af.chg ag Ae0,a6⟩ B9 (by show p.length - (i+1)<p.length - i;omega)
 | some k'=>
  obtain⟨u,hu,-⟩:=Nl hk;rw[hk] at et;simp only[hu] at et;have bg:=(Aav.1 hu).1;have b3:=G7 (EV hmc hu);have ao:=a7.trans a1;have bh:=hx0.size;obtain⟨a2,q2,k2,eq2,-,-,b4,aa⟩:=Ak.at hc hu;subst eq2;have far4:∀w',Chg (Ac (Value.slice op i oc)) w4 w'→Ae w0 w':=λw' h=>ao.step h (λb hb=>by have:=(hV b hb).1;omega);rw[show Qq (some k')=(k':Int) from rfl];refine Sw ?_;refine CW.drawG (Chg (Ac (Value.slice op i oc)) w4) 19 (λw' h=>h.chg) Ae1 λwb al=>?_;refine Sg ?_;refine BD ?_;refine Sg ?_;refine BD ?_;refine Sg ?_;refine BD ?_;refine GW.take 13 rfl rfl rfl rfl (λw' ak=>Y.load_cells rfl (λj u hj=>Aw (far4 _ ak) (aa j u hj)) rfl rfl rfl) rfl rfl Ae1 Ae1 Ae1 (λ_ _ _ h=>h) ?_;refine BD ?_;refine DR 14 λhS=>?_;refine Ax rfl rfl (Ra s u _ _ _ (AO.ext hr (far4 _ hS)) (AO.ext b4 (far4 _ hS)) av b3) ?_;rintro v w5 ⟨ru,cu,rfl,o1,o2,au⟩;obtain⟨rp,rc,rfl⟩:=o1.slice;obtain⟨cp,cc,rfl⟩:=o2.slice;have a4:Ae w4 wb:=al;have bi:=a4.size;have ap:=a4.trans au;replace hS:=hS.ext au;apply LW.nil;refine QW.headed hS ?_;refine DR 15 λhS=>?_;refine Cx λD w6 b1 a3 hD=>?_;have b2:=a3.size;replace hD:Blk w6 D (KZ (Bx s u) (.slice rp s.rows.length rc) (.slice cp s.cols.toNat cc)) 73:=hD;have a0:Ae w4 w6:=ap.trans a3;have am:=a0.size;replace hS:=hS.ext a3;apply LW.nil;refine QW.headed hS ?_;refine DR 16 λhS=>?_;refine LW.append (lo:=w.heap.size) (k:=i) rfl rfl rfl rfl rfl rfl ((g3.ext a1).ext a0) Aez hD rfl rfl rfl (by show(_+1)*89≤_;omega) rfl ?_;intro v7 w7 a5 ae an;have ah:∀b,wb.heap.size≤b→b∉Ac (Value.slice op i oc):=λb hb hm=>by have:=(hV b hm).2;omega
  have o1':E.A3 w6 w.heap.size 3 1 (.slice rp s.rows.length rc) (Bx s u).rows.to.length (Ad (Bx s u).rows.to):=by
   rw[show(Bx s u).rows.to.length=s.rows.length from Gm s u];exact(o1.ext a3).low Aez
  have o2':E.A3 w6 w.heap.size 3 1 (.slice cp s.cols.toNat cc) (Bx s u).cols.to.length (Ad (Bx s u).cols.to):=by
   rw[show(Bx s u).cols.to.length=s.cols.toNat from Nv s u _];exact(o2.ext a3).low Aez
  have af:=QN.snoc (s:=Bx s u) g1 g2 g4 (a1.trans a0) o1' o2' (λb hb=>ah b (o1.lt hb).1) (λb hb=>ah b (o2.lt hb).1) a5 an (by rw[el];exact ae);rw[et] at af;obtain⟨p7,c7,rfl⟩:=ae.slice;have a6:=(ad.ext a0).chg a5 aq;replace hS:=hS.same a5;apply LW.nil;refine QW.headed hS ?_;refine BD ?_;refine GW.tail rfl Ae1 (λhS=>?_);refine BO λw8 ag a6=>?_;replace a6:Blk w8 A [.slice (some a) p.length bc,.slice (some a2) c.length dc,.slice p7 (i+1) c7] 58:=a6;refine Sa ?_;exact QW.again (i+1,p7,c7) ⟨by show i+1≤_;omega,((ab.ext (a1.trans a0)).more a5 (λb hb=>(hV b hb).1)).same ag,af.chg ag Ae0,a6⟩ B9 (by show p.length - (i+1)<p.length - i;omega)
theorem Zv(x y:Nat)(hx:x<18446744073709551616)(hy:y<18446744073709551616)(w:World):AF prog 62 [.int .u64 x,.int .u64 y] w (λv w'=>v=.tuple #[.int .u64 ((x*y / 18446744073709551616:Nat):Int),.int .u64 ((x*y % 18446744073709551616:Nat):Int)]∧Ae w w'):=
 Gk Ae1 (bits_Mul x y hx hy w) λe w' ⟨he,hw⟩=>⟨_,he,rfl,by subst hw;exact Chg.refl _ _⟩
theorem YL{z s:Value}{n c:Nat}(hn:n≤c):((List.replicate n s++List.replicate (c - n) z).take n++List.replicate (min n (c - n)) s++(List.replicate n s++List.replicate (c - n) z).drop (n+min n (c - n)))=List.replicate (n+min n (c - n)) s++List.replicate (c - (n+min n (c - n))) z:=by
 have e1:(List.replicate n s++List.replicate (c - n) z).take n=List.replicate n s:=by rw[AdV Ae7];simp
 have e2:(List.replicate n s++List.replicate (c - n) z).drop (n+min n (c - n))=List.replicate (c - (n+min n (c - n))) z:=by
  rw[List.drop_append,AcD Ae7,Acb,List.drop_replicate,AcB]
  congr 1
  omega
 rw[e1,e2,List.replicate_append_replicate]
set_option maxRecDepth 8000 in
set_option maxHeartbeats 4000000 in
theorem TE(id:List UInt8)(c A k:Nat)(w:World)(hA:Blk w A [Am id] 9)(hc:c≤1000000):AF prog 44 [.slice (some ⟨A,0,none⟩) 1 k,.int .i64 c] w (λv w'=>E.A3 w' w.heap.size 9 1 v c (List.replicate c (Am id))∧Ae w w'):=by
 have ad:=hA.lt;refine AQ func44 ntmps44 ?_;refine Sw ?_;refine Ax rfl rfl (Zv 1 c Aez Aez w) ?_;rintro v w1 ⟨rfl,a1⟩;rw[show 1*c / 18446744073709551616=0 by omega,show 1*c % 18446744073709551616=c by omega];replace hA:=hA.ext a1;refine Sw ?_;refine Av (λh2=>?_) λh2=>?_
 ·have h2:(9223372036854775807:Int)<(c:Int):=of_decide_eq_true h2;omega
 refine Sw ?_;refine LW.makeSlice (m:=c) rfl rfl rfl rfl rfl rfl rfl Aez rfl rfl ?_;intro B w2 ae a4 hB;replace hA:=hA.ext a4;have af:=a1.size;have a2:=a1.trans a4;refine Sw ?_;refine LW.copy (g:=B) (off:=0) (cs:=List.replicate (min 1 c) (Am id)) rfl rfl rfl rfl rfl rfl rfl hB Ae7 (λ_=>⟨rfl,_,rfl,λj v hj=>?_⟩) Ae0 (λv hv=>by rw[(AdK.1 hv).2];rfl) λw3 ab a3=>?_
 ·have a0:=(Aav.1 hj).1;simp only[AcB] at a0;obtain rfl:j=0:=by omega
  rw[Ada,if_pos a0] at hj;obtain rfl:=Aa5 hj;rw[An];exact hA.cell rfl
 simp only[AcB,List.take_zero,Acb,List.drop_replicate,AbW] at a3 ⊢;have ag:=a3.lt;refine Sw ?_;refine CW.loop (ι:=Nat) (λn w'=>n≤c∧(0<c→0<n)∧Chg [B] w2 w'∧Blk w' B (List.replicate n (Am id)++List.replicate (c - n) (Am [])) 9) (λn=>[(7,.slice (some ⟨B,0,none⟩) c c),(8,.int .i64 n)]) (λn=>c - n) (min 1 c) ⟨by omega,by omega,ab,a3⟩ EH ?_;rintro n w4 ⟨hn,h0,a5,a6⟩;refine Sw ?_;refine Av (λh2=>?_) λh2=>?_;rotate_left
 ·have h2:n=c:=by simp at h2;omega
  subst h2;refine Sw ?_;exact QW.body1 rfl rfl ⟨⟨by simp,.inr ⟨B,n,[],rfl,by simpa using a6,Ab9 _,by simp,by omega⟩⟩,a2.step a5 Ae0⟩
 have h2:n<c:=by simp at h2;omega
 have h3:=h0 Aez;refine Sw ?_;refine CW.drawG (Chg [B] w4) 8 (λw' h=>h.chg) Ae1 λwa a7=>?_;refine Gkp 0 ?_;refine Gkp 1 ?_;refine Gkp 2 ?_;refine GW.take 3 rfl rfl rfl rfl (λ_ _=>Y.slice_from (i:=n) rfl rfl rfl rfl rfl hn) rfl rfl Ae1 Ae1 Ae1 (λ_ _ _ h=>h) ?_;refine Gkp 4 ?_;refine Gkp 5 ?_;refine GW.take 6 rfl rfl rfl rfl (λ_ _=>Y.slice_hi (j:=n) rfl rfl rfl rfl rfl hn) rfl rfl Ae1 Ae1 Ae1 (λ_ _ _ h=>h) ?_;refine DR 7 λhS=>?_;have a8:=a6.ext a7;refine LW.copy (g:=B) (off:=n) (cs:=List.replicate (min n (c - n)) (Am id)) rfl rfl rfl rfl rfl rfl rfl a8 Ae7 (λ_=>⟨?_,_,rfl,λj v hj=>?_⟩) Ae0 (λv hv=>by rw[(AdK.1 hv).2];rfl) λw5 ac a9=>?_
 ·rw[if_neg Aez];show some (Addr.add ⟨B,0,none⟩ (n*1))=_;rw[An]
  congr 2
  omega
 ·have a0:=(Aav.1 hj).1;simp only[AcB] at a0;rw[Ada,if_pos a0] at hj;obtain rfl:=Aa5 hj;rw[An];refine a8.cell ?_;rw[AbW,Abg Ae0,Ada,if_pos Aez]
 rw[AcB,YL hn] at a9;rw[AcB];have aa:Chg [B] w4 w5:=a7.chg.same ac;clear hS;apply LW.nil;refine QW.headed aa ?_;refine GW.tail rfl Ae1 (λhS=>?_);refine Sw ?_;exact QW.again (n+min n (c - n)) ⟨by omega,by omega,a5.same aa,a9⟩ EH Aez
set_option maxRecDepth 8000 in
set_option maxHeartbeats 4000000 in
theorem XK(b:Ag)(sv:Value)(id:List UInt8)(w:World)(h:B5 w sv b)(hid:id.length≤1000000):AF prog 30 [.agg ⟨[sv]⟩,Am id] w (λv w'=>∃rv f,Ck w.heap.size w' v (JA b id) rv f∧Ae w w'):=by
 obtain⟨p,c,rfl⟩:=h.slice;have hl:=h.1;refine AQ func30 ntmps30 ?_;apply CW.seq;apply CW.region;refine Sl ?_;refine Dq λA w1 bk ar hA=>?_;replace hA:Blk w1 A [.slice p b.length c] 29:=hA;have bl:=hA.lt;refine Sa ?_;refine LW.makeSlice (m:=b.length) rfl rfl rfl rfl rfl rfl rfl Aez rfl rfl ?_;intro B w2 bm ag hB;replace hA:=hA.ext ag;have ah:=ar.trans ag;have bn:=ar.size;have bo:=ag.size;have bp:=hB.lt;have b2:A∉[B]:=Ae0
 refine Sa ?_;refine CW.loop (ι:=Nat) (λi w'=>i≤b.length∧Chg [B] w2 w'∧∃rv f,Blk w' B ((List.range i).map rv++List.replicate (b.length - i) (.slice none 0 0)) 39∧De w2.heap.size w' i (tb (JA b id)) rv f [B]) (λi=>[(1,Am id),(2,.pointer (some ⟨A,0,none⟩)),(5,.slice (some ⟨B,0,none⟩) b.length b.length),(15,.slice p b.length c),(16,.int .i64 b.length),(17,.int .i64 i)]) (λi=>b.length - i) 0 ⟨Ac8 _,Chg.refl _ _,λ_=>.slice none 0 0,λ_ _=>0,by simpa using hB,De.zero⟩ DL ?_;rintro i w3 ⟨hi,ad,rv,f,au,a0⟩;have bq:=hA.chg ad b2;have br:=ad.size;have far:∀w',Chg [B] w2 w'→Ae w w':=λw' h=>ah.step h Ae0;have a6:=far _ ad;refine Sw ?_;refine Av (λh1=>?_) λh1=>?_;rotate_left
 ·have h1:i=b.length:=by simp at h1;omega
  subst h1;refine Sw ?_;refine QW.body1 rfl rfl ⟨rv,f,⟨?_,?_,?_⟩,a6⟩
  ·rw[Nj];exact⟨by simp,.inr ⟨B,b.length,[],rfl,by simpa using au,Ab9 _,by simp,by omega⟩⟩
  ·rw[Nj];exact hl
  ·rw[UR,Nj];exact⟨λi s hi hs=>(a0.rows i s hi hs).low Aez,a0.apartV,a0.apart⟩
 have h1:i<b.length:=by simp at h1;omega
 obtain⟨s,hs⟩:∃s,b[i]?=some s:=⟨_,Aak h1⟩;have b3:=LV (XD (id:=id) hs);obtain⟨a,q,k,eqb,-,bs,hr,a1⟩:=Ak.at h hs;subst eqb;have av:∀j u,(Ap s (.slice q s.rows.length k))[j]?=some u→w3.cell? ((a.add (((i:Nat):Int).toNat*3)).add j)=some u:=λj u hj=>Aw a6 (a1 j u hj);have b4:=hr.1;refine Sw ?_;refine BX λX w4 bt b5 hX=>?_;refine Sw ?_;refine AR λw5 b6 hX=>?_;replace hX:Blk w5 X (Ap s (.slice q s.rows.length k)) 41:=hX;have a7:Ae w3 w5:=b5.step b6 Ae0;have bu:=hX.lt;refine Sa ?_;refine LW.makeSlice (m:=s.rows.length) rfl rfl rfl rfl rfl rfl rfl Aez rfl rfl ?_;intro M w6 bv aw hM;replace hX:=hX.ext aw;have a2:=a7.trans aw;have b7:=a7.size;have b8:=a2.size;have bw:=hM.lt;have b9:=au.ext a2;refine Sa ?_;refine LW.idx_slice (j:=i) rfl rfl rfl rfl rfl Aez Aez (by show 0+((i:Nat):Int).toNat*1=_;omega) rfl ?_;refine LW.store rfl rfl rfl b9 (Acw (by show i+1≤_;simp;omega)) rfl rfl λw7 ae ax=>?_;rw[Tc Ae7 h1] at ax;have ba:=hM.chg ae Ae0;have bx:=hX.chg ae Ae0;have a3:Chg [B] w3 w7:=a2.chg.same ae;have a8:Chg [B] w2 w7:=ad.same a3;have bb:=a3.size;have bc:=ae.size;have ai:=far _ a8;refine Sa ?_;refine CW.loop (ι:=Nat) (λr w'=>r≤s.rows.length∧Chg [M] w7 w'∧∃xs g,Blk w' M (xs++List.replicate (s.rows.length - r) (.slice none 0 0)) 26∧CT w7.heap.size w' xs ((s.rows.map λr=>r.map λ_=>id).take r) g [M]) (λr=>[(1,Am id),(2,.pointer (some ⟨A,0,none⟩)),(5,.slice (some ⟨B,0,none⟩) b.length b.length),(6,.int .i64 i),(15,.slice (some a) b.length c),(16,.int .i64 b.length),(17,.int .i64 i),(30,.slice q s.rows.length k),(31,.int .i64 s.rows.length),(32,.int .i64 r)]) (λr=>s.rows.length - r) 0 ⟨Ac8 _,Chg.refl _ _,[],λ_=>0,by simpa using ba,CT.nil⟩ Pa ?_;rintro r w8 ⟨bz,a4,xs,g,aj,a5⟩;have c0:=a4.size;have ay:=ax.chg a4 Ae0;have far2:∀w',Chg [M] w7 w'→Ae w w':=λw' h=>ai.step h Ae0;have ak:=far2 _ a4;refine Sw ?_;refine Av (λh2=>?_) λh2=>?_;rotate_left
 ·have h2:r=s.rows.length:=by simp at h2;omega
  subst h2;rw[AcC Ae7] at a5;rw[Adc,List.replicate_zero,Acq] at aj;have af:=a5.len;have hF:CS w5.heap.size w8 (.slice (some ⟨M,0,none⟩) s.rows.length s.rows.length) (s.rows.map λr=>r.map λ_=>id) g:=⟨⟨xs,⟨by rw[af];simp,.inr ⟨M,s.rows.length,[],by simp,by simpa using aj,by simp,by simp,by omega⟩⟩,a5.low Aez⟩,by simpa using b4⟩;have al:=a0.chg a3 (λj t hj ht y hy=>a0.apartV j t hj ht y hy);have am:=al.chg a4 (λj t hj ht y hy=>by have:=((a0.rows j t hj ht).lt hy).2;simp;omega);have a9:=am.push b3 (hF.low Aez) (λx hx hb=>by
   have:=(hF.lt hx).1;simp at hb;omega) (λj t hj bd x hx hy=>by
   have:=((a0.rows j t hj bd).lt hx).2;have:=(hF.lt hy).1;omega)
  refine Sw ?_;refine QW.again (i+1) ⟨by omega,a8.more a4 Ae0,_,_,?_,a9⟩ DL Aez;rw[Xb];exact ay
 have h2:r<s.rows.length:=by simp at h2;omega
 obtain⟨row,aa⟩:∃r',s.rows[r]?=some r':=⟨_,Aak h2⟩;obtain⟨ga,q1,c1,eqr,-,ht,an⟩:=AO.at hr aa;subst eqr;have c2:=Aw ak an;have be:=ht.1;have c3:w8.cell? ((⟨B,0,none⟩:Addr).add (((i:Nat):Int).toNat*1))=some (.slice (some ⟨M,0,none⟩) s.rows.length s.rows.length):=by
  rw[An];refine ay.cell ?_;rw[show 0+((i:Nat):Int).toNat*1=i by omega,Abh,Ace Ae7];simp
 refine Sw ?_;refine CW.drawG (Ae w8) 11 (λw' h=>h) Ae1 λwa c4=>?_;refine BD ?_;refine DR 6 λhS=>?_;refine Cx λC w9 c5 az hC=>?_;have b0:=hS.trans az;clear hS;apply LW.nil;refine QW.headed b0 ?_;refine DR 9 λhS=>?_;refine Ax rfl rfl (TE id row.length C 1 _ hC Aez) ?_;rintro v bf ⟨hR,ao⟩;obtain⟨pv,cv,rfl⟩:=hR.slice;have ap:=hS.trans ao;clear hS;apply LW.nil;refine QW.headed ap ?_;refine BD ?_;refine GW.tail rfl Ae1 (λhS=>?_);have af:=a5.len;have bg:((s.rows.map λr=>r.map λ_=>id).take r).length=r:=Ae0
 rw[bg] at af;refine LW.store (i:=r) (by show some (Value.pointer (some (Addr.add ⟨M,0,none⟩ (((r:Nat):Int).toNat*1))))=_;rw[An];congr;omega) rfl rfl (aj.ext hS) (Acw (by show r+1≤_;simp;omega)) rfl rfl λc6 ab ac=>?_;rw[Tc af h2] at ac;have c7:=hS.size;have c8:=az.size;have b1:E.A3 bf w8.heap.size 9 1 (.slice pv row.length cv) (row.map λ_=>id).length ((row.map λ_=>id).map Am):=by
  rw[ZG,AcB,List.map_replicate];have bh:w8.heap.size≤w9.heap.size:=b0.size;exact hR.low bh
 obtain⟨gR,bi,bj⟩:=EY b1 (by simpa using be) (λt ht=>by
  simp only[Acu] at ht;obtain⟨_,_,rfl⟩:=ht;exact hid)
 have a9:=(a5.ext hS).push bi (K9 b1) (λhn=>by
  obtain⟨g1,sp,g2⟩:=bj hn;refine⟨by omega,by simp;omega,λr' y aq hy hf=>?_,sp,g2⟩;obtain⟨_,_,sp',h9⟩:=a5.blk r' y aq hy;have:=h9.lt;omega)
 obtain⟨et,el⟩:=VL (l:=s.rows.map λr=>r.map λ_=>id) (j:=r) (x:=row.map λ_=>id) (by rw[AbA,aa];rfl);rw[et,el] at a9;refine Sw ?_;exact QW.again (r+1) ⟨by omega,(a4.ext hS).same ab,_,_,ac,a9.chg ab (λr' y aq hy=>(a9.blk r' y aq hy).2.1)⟩ Pa Aez
theorem R3{m:C7}(h:Ij m=true):m.Fine:=by
 simp only[Ij,Abf,decide_eq_true_eq] at h;exact⟨by omega,by omega,by omega⟩
set_option maxRecDepth 8000 in
set_option maxHeartbeats 16000000 in
theorem We(p c:Ag)(bp dp sp:Option Addr)(bc dc sc A:Nat)(had t00:AB)(hv nv:Value)(rv:Nat→Value)(f:Nat→Nat→Nat)(wb w1 w:World)(g0:Dg wb)(hxb1:Ae wb w1)(hx1:Ae w1 w)(hp:B5 wb (.slice bp p.length bc) p)(hc:B5 wb (.slice dp c.length dc) c)(hmp:A5 p=true)(hmc:A5 c=true)(hA:Blk w A [.slice bp p.length bc,.slice dp c.length dc,.slice sp p.length sc] 58)(hAh:w1.heap.size≤A)(hh:GZ wb hv had)(hfit:DK had p)(hT1:Ck wb.heap.size w1 nv t00 rv f)(hf0:DK t00 c)(hSF:QN w1.heap.size w (.slice sp p.length sc) (AL p c)) :
  AF prog 32 [.pointer (some ⟨A,0,none⟩),hv,nv] w (λv w'=>v=.tuple #[]∧Ck wb.heap.size w' nv (Ej p c had p.length t00) rv f∧∃S:List Nat,(∀b∈S,wb.heap.size≤b∧b<w1.heap.size)∧Chg S w w'):=by
 obtain⟨an,ao,rfl⟩:=hh.slice;obtain⟨op,oc,rfl⟩:=hT1.slice;have bh:t00.length=c.length:=by have:=congrArg List.length hf0;simpa using this
 rw[bh];have df:=(AP.1 hmp).1;have dg:=(AP.1 hmc).1;have ad:=Xl hmp hmc;have dh:=hA.lt;have di:=hxb1.size;have bi:=hx1.size;have cj:=hxb1.trans hx1;obtain⟨S0,al⟩:∃S0:List Nat,∀b,b∈S0↔wb.heap.size≤b∧b<w1.heap.size:=⟨List.range' wb.heap.size (w1.heap.size - wb.heap.size),λb=>by rw[AdO];omega⟩;have bj:A∉S0:=λh=>by have:=(al A).1 h;omega
 have c2:∀w',Chg S0 w w'→Cp w' (.slice sp p.length sc) (AL p c):=λw' hx=>(hSF.chg hx (λb hb=>((al b).1 hb).2)).list (by rw[GF];omega) (λs hs=>by have:=VR (ad s hs);omega);have a3:∀w',Chg S0 w w'→Ae wb w':=λw' hx=>cj.step hx (λb hb=>by have:=(al b).1 hb;omega);have hT:=hT1.ext hx1;rw[bh] at hT;clear hSF;obtain⟨sa0,ck⟩:∃v,v=Value.slice sp p.length sc:=⟨_,rfl⟩;refine AQ func32 ntmps32 ?_;refine Sw ?_;refine CW.loop (ι:=Nat) (λi w'=>i≤p.length∧Chg S0 w w'∧Ck wb.heap.size w' (.slice op c.length oc) (Ej p c had i t00) rv f) (λi=>[(0,.pointer (some ⟨A,0,none⟩)),(1,.slice an had.length ao),(2,.slice op c.length oc),(19,.slice bp p.length bc),(20,.int .i64 p.length),(21,.int .i64 i)]) (λi=>p.length - i) 0 ⟨Ac8 _,Chg.refl _ _,hT⟩ DL ?_;rintro i w5 ⟨hi,ap,c4⟩;have cl:=hA.chg ap bj;have aq:=a3 _ ap;have dj:=ap.size;refine Sw ?_;refine Av (λh1=>?_) λh1=>?_;rotate_left
 ·have h1:i=p.length:=by simp at h1;omega
  subst h1;refine Sw ?_;exact QW.body_n (rs:=[]) (vs:=[]) results32 trivial rfl ⟨rfl,c4,S0,λb hb=>(al b).1 hb,ap⟩
 have h1:i<p.length:=by simp at h1;omega
 obtain⟨s,hs⟩:∃s,p[i]?=some s:=⟨_,Aak h1⟩;obtain⟨a,q,k,eqb,-,dk,hr,ae⟩:=Ak.at hp hs;subst eqb;have ar:∀j u,(Ap s (.slice q s.rows.length k))[j]?=some u→w5.cell? ((a.add (((i:Nat):Int).toNat*3)).add j)=some u:=λj u hj=>Aw aq (ae j u hj);have be:=G7 (EV hmp hs);have dl:=be.rows;refine Sa ?_;refine Lo ?_;refine LW.load_cells rfl ar rfl rfl rfl rfl ?_;refine Sa ?_;refine BX λX w6 dm c5 hX=>?_;have dn:=hX.lt;have dq:=c5.size;refine Sa ?_;refine AR λw7 cm hX=>?_;replace hX:Blk w7 X (Ap s (.slice q s.rows.length k)) 41:=hX;have af:Ae w5 w7:=c5.step cm Ae0;have c6:=cl.ext af;have c7:X∉S0:=λh=>by have:=(al X).1 h;omega
 refine Sa ?_;refine CW.drawG (Ae w7) 7 (λw' h=>h) Ae1 λwa cn=>?_;refine BD ?_;refine GW.take 3 rfl rfl rfl rfl (λw' co=>Y.load_cells rfl (Hf (i:=1) (c6.ext co) rfl) rfl rfl rfl) rfl rfl Ae1 Ae1 Ae1 (λ_ _ _ h=>h) ?_;refine BD ?_;refine DR 6 λhS=>?_;refine Ax rfl rfl (QO c _ s.name _ (hc.ext ((aq.trans af).trans hS))) ?_;rintro v w8 ⟨rfl,cq⟩;have cr:=hS.trans cq;clear hS;apply LW.nil;refine QW.headed cr ?_;refine GW.tail rfl Ae1 (λhS=>?_);have au:=af.trans hS;have av:Chg S0 w w8:=ap.ext au;have bk:=c4.ext au;have cs:=hX.ext hS;have ct:=c6.ext hS;clear hS hX;have hX:=cs
 cases hk:IW c s.name with
 | none=>
  refine Sw ?_
  exact QW.again (i+1) ⟨by omega,av,by show Ck _ _ _ (Ej p c had (i+1) _) _ _;rw[Um hs hk];exact bk⟩ DL Aez
 | some k'=>
  obtain⟨u,hu,-⟩:=Nl hk;have dr:=(Aav.1 hu).1;have aw:=G7 (EV hmc hu);have bl:(AL p c)[i]?=some (Bx s u):=by
   rw[Ka hs,hk];simp only[hu]
  have c8:DK (Ej p c had i t00) c:=Ul hf0;obtain⟨t0,c9⟩:∃t0,Ej p c had i t00=t0:=⟨_,rfl⟩;rw[c9] at bk c8;rw[show Qq (some k')=(k':Int) from rfl];have cu:=ct;refine Sw ?_;refine CW.loop (ι:=Nat) (λr w'=>r≤s.rows.length∧Chg S0 w8 w'∧Ck wb.heap.size w' (.slice op c.length oc) (F8 c (AL p c) had i k' s (Bx s u) r t0) rv f) (λr=>[(0,.pointer (some ⟨A,0,none⟩)),(1,.slice an had.length ao),(2,.slice op c.length oc),(6,.int .i64 i),(7,.pointer (some ⟨X,0,none⟩)),(8,.int .i64 k'),(19,.slice (some a) p.length bc),(20,.int .i64 p.length),(21,.int .i64 i),(36,.slice q s.rows.length k),(37,.int .i64 s.rows.length),(38,.int .i64 r)]) (λr=>s.rows.length - r) 0 ⟨Ac8 _,Chg.refl _ _,bk⟩ Aaz ?_;rintro r w9 ⟨ds,bf,bm⟩;have ag:=av.same bf;have cv:=hX.chg bf c7;have cw:=cu.chg bf bj;have bn:=a3 _ ag;refine Sw ?_;refine Av (λh2=>?_) λh2=>?_;rotate_left
  ·have h2:r=s.rows.length:=by simp at h2;omega
   subst h2;refine Sw ?_;exact QW.again (i+1) ⟨by omega,ag,by show Ck _ _ _ (Ej p c had (i+1) _) _ _;rw[Un hs hk bl,c9];exact bm⟩ DL Aez
  have h2:r<s.rows.length:=by simp at h2;omega
  obtain⟨row,a9⟩:∃r',s.rows[r]?=some r':=⟨_,Aak h2⟩;have ca:=be.wide row (Aa9 a9);have dt:=be.cols;have ax:DK (F8 c (AL p c) had i k' s (Bx s u) r t0) c:=NF c8;obtain⟨t1,cb⟩:∃t1,F8 c (AL p c) had i k' s (Bx s u) r t0=t1:=⟨_,rfl⟩;rw[cb] at bm ax;obtain⟨ga,q1,c1,eqr,-,bo,br⟩:=AO.at hr a9;subst eqr;have du:=Aw bn br;refine Sw ?_;refine CW.loop (ι:=Nat) (λy w'=>y≤row.length∧Chg S0 w9 w'∧Ck wb.heap.size w' (.slice op c.length oc) (EM c (AL p c) had i k' s.name (Bx s u) r row y t1) rv f) (λy=>[(0,.pointer (some ⟨A,0,none⟩)),(1,.slice an had.length ao),(2,.slice op c.length oc),(6,.int .i64 i),(7,.pointer (some ⟨X,0,none⟩)),(8,.int .i64 k'),(9,.int .i64 r),(19,.slice (some a) p.length bc),(20,.int .i64 p.length),(21,.int .i64 i),(36,.slice (some ga) s.rows.length k),(37,.int .i64 s.rows.length),(38,.int .i64 r),(43,.slice q1 row.length c1),(44,.int .i64 row.length),(45,.int .i64 y)]) (λy=>row.length - y) 0 ⟨Ac8 _,Chg.refl _ _,bm⟩ (Ai.cons rfl (Ai.cons rfl (Ai.cons rfl (Ai.cons rfl (Ai.cons rfl (Ai.cons rfl (Ai.cons rfl (Ai.cons rfl (Ai.cons rfl (Ai.cons rfl (Ai.cons rfl (Ai.cons rfl (Ai.cons rfl (Ai.cons rfl (Ai.cons rfl (Ai.cons rfl (Ai.nil))))))))))))))))) ?_;rintro y bs ⟨cx,a4,a5⟩;have a6:=ag.same a4;have ay:=cv.chg a4 c7;have az:=cw.chg a4 bj;have b0:=a3 _ a6;refine Sw ?_;refine Av (λh3=>?_) λh3=>?_;rotate_left
  ·have h3:y=row.length:=by simp at h3;omega
   subst h3;refine Sw ?_;exact QW.again (r+1) ⟨by omega,bf.same a4,by show Ck _ _ _ (F8 c (AL p c) had i k' s (Bx s u) (r+1) t0) _ _;rw[Up a9,cb];exact a5⟩ Aaz Aez
  have h3:y<row.length:=by simp at h3;omega
  obtain⟨tx,cd⟩:∃t,row[y]?=some t:=⟨_,Aak h3⟩;have b1:DK (EM c (AL p c) had i k' s.name (Bx s u) r row y t1) c:=NE ax;have a7:=Uo (c:=c) (ss:=(AL p c)) (had:=had) (i:=i) (k:=k') (r:=r) (nm:=s.name) (sh:=Bx s u) (t:=t1) cd;obtain⟨t2,bt⟩:∃t2,EM c (AL p c) had i k' s.name (Bx s u) r row y t1=t2:=⟨_,rfl⟩;rw[bt] at a5 b1 a7;obtain⟨gt,eqt,-,bh,bu⟩:=A4.at bo cd;subst eqt;have dv:=Aw b0 bu;obtain⟨sa,rp,rc,cp,cc,esp,cy,cz,bg⟩:=Cp.at (by rw[GF];exact c2 _ a6) bl;subst esp;have b2:=ad _ (Aa9 bl);have dw:∀j v,([.slice rp (Bx s u).rows.to.length rc,.int .i64 (Bx s u).rows.new]:List Value)[j]?=some v→bs.cell? (((sa.add (((i:Nat):Int).toNat*6)).add 1).add j)=some v:=λj v hj=>by
   rw[show((i:Nat):Int).toNat=i by omega,AdY]
   match j,hj with
   | 0,hj=>exact bg 1 v hj
   | 1,hj=>exact bg 2 v hj
  have dx:∀j v,([.slice cp (Bx s u).cols.to.length cc,.int .i64 (Bx s u).cols.new]:List Value)[j]?=some v→bs.cell? (((sa.add (((i:Nat):Int).toNat*6)).add 3).add j)=some v:=λj v hj=>by
   rw[show((i:Nat):Int).toNat=i by omega,AdY]
   match j,hj with
   | 0,hj=>exact bg 3 v hj
   | 1,hj=>exact bg 4 v hj
  obtain⟨z1,bi⟩:∃z,(Da s u)[r]?=some z:=⟨_,Aak (by rw[Gm];exact h2)⟩;obtain⟨z2,b3⟩:∃z,(HD s u (Da s u))[y]?=some z:=⟨_,Aak (by rw[Nv];omega)⟩;obtain⟨ba1,ba2⟩:=KJ be aw z1 (Aa9 bi);have dy:=aw.cols;have dz:=aw.rows;obtain⟨bb1,bb2⟩:-1≤z2∧z2<u.cols:=by
   have h4:=KD (Bk s ((CE s u (Da s u)).map Prod.fst)) (Bk u ((CE s u (Da s u)).map Prod.snd)) AfB AfB z2 (Aa9 b3);have h5:(Bk u ((CE s u (Da s u)).map Prod.snd)).length=u.cols.toNat:=by simp[Bk]
   omega
  have ce:AG (Bx s u).rows (r:Int)=z1:=Vo bi;have cf:AG (Bx s u).cols (y:Int)=z2:=Vo b3;refine Sw ?_;refine CW.drawG (Ae bs) 20 (λw' h=>h) Ae1 λwa cn=>?_;refine BD ?_;refine DR 9 λhS=>?_;refine Ax rfl rfl (FK (Bx s u).rows (R3 b2.1) _ r Aez _ ⟨_,rfl,cy.ext hS⟩) ?_;rintro v bv ⟨rfl,bw⟩;rw[ce];have b4:=hS.trans bw;clear hS;apply LW.nil;refine QW.headed b4 ?_;refine BD ?_;refine DR 19 λhS=>?_;refine Ax rfl rfl (FK (Bx s u).cols (R3 b2.2) _ y Aez _ ⟨_,rfl,cz.ext hS⟩) ?_;rintro v b5 ⟨rfl,a1⟩;rw[cf];have aa:=hS.trans a1;clear hS;apply LW.nil;refine QW.headed aa ?_;refine GW.tail rfl Ae1 (λhS=>?_);have am:=hS;clear hS b4 aa;generalize b5=bv at am;refine Sa ?_;replace ay:=ay.ext am;replace az:=az.ext am;replace a5:=a5.ext am;have a8:=a6.ext am;have ab:=a3 _ a8;have hK:J4 c (AL p c) had i k' s.name (Bx s u) r y tx t2=if 0≤z1∧0≤z2∧It u z1 z2=B3 s.name (AL p c) tx then MA t2 k' z1.toNat z2.toNat (PY had i r y) else t2:=by
   unfold J4;simp only[ce,cf,CR hu]
  obtain⟨bq,b6⟩:∃bq:Bool,bq=decide (0≤z1∧0≤z2∧It u z1 z2=B3 s.name (AL p c) tx):=⟨_,rfl⟩;refine CW.cut (ι:=Unit) (λ_ w'=>Ae bv w') (λ_=>[(0,.pointer (some ⟨A,0,none⟩)),(1,.slice an had.length ao),(2,.slice op c.length oc),(6,.int .i64 i),(7,.pointer (some ⟨X,0,none⟩)),(8,.int .i64 k'),(9,.int .i64 r),(11,.int .i64 y),(13,.int .i64 z1),(14,.int .i64 z2),(19,.slice (some a) p.length bc),(20,.int .i64 p.length),(21,.int .i64 i),(36,.slice (some ga) s.rows.length k),(37,.int .i64 s.rows.length),(38,.int .i64 r),(43,.slice (some gt) row.length c1),(44,.int .i64 row.length),(45,.int .i64 y),(101,.bool bq)]) ?_ ?_
  ·obtain⟨a2,q2,k2,eq2,-,-,d0,ah⟩:=Ak.at (Ak.ext hc ab) hu;subst eq2;have d1:=ah 2 _ rfl;refine CW.drawG (Ae bv) 31 (λw' h=>h) Ae1 λe0 d2=>?_;refine BD ?_;by_cases ai:0≤z1;rotate_left
   ·have hb:bq=false:=by rw[b6];exact decide_eq_false λh=>ai h.1
    refine GW.know (t:=72) (c:=false) rfl Ae0 ?_;refine BD ?_;refine Gks 29 ?_;refine BD ?_;refine GW.tail rfl Ae1 (λhS=>?_);refine Sa ?_;exact QW.head () hS Ae8
   refine GW.know (t:=72) (c:=true) rfl Ae0 ?_;refine BD ?_;by_cases aj:0≤z2;rotate_left
   ·have hb:bq=false:=by rw[b6];exact decide_eq_false λh=>aj h.2.1
    refine GW.know (t:=76) (c:=false) rfl Ae0 ?_;refine BD ?_;refine Gks 29 ?_;refine BD ?_;refine GW.tail rfl Ae1 (λhS=>?_);refine Sa ?_;exact QW.head () hS Ae8
   obtain⟨rowc,a0⟩:∃r,u.rows[z1.toNat]?=some r:=⟨_,Aak Aez⟩;have d4:=aw.wide rowc (Aa9 a0);obtain⟨tc,b7⟩:∃r,rowc[z2.toNat]?=some r:=⟨_,Aak Aez⟩;obtain⟨gc,q3,c3,eq3,-,bt,bx⟩:=AO.at d0 a0;subst eq3;rw[show((z1.toNat:Nat):Int).toNat=z1.toNat by omega] at bx;obtain⟨gd,eq4,-,-,d5⟩:=A4.at bt b7;subst eq4;rw[show((z2.toNat:Nat):Int).toNat=z2.toNat by omega] at d5;have d6:It u z1 z2=tc:=by rw[It,CR a0,CR b7]
   refine GW.know (t:=76) (c:=true) rfl Ae0 ?_;refine BD ?_;refine DR 29 λhS=>?_;refine Lb ?_;refine Ax rfl rfl (Uz tx s.name (AL p c) _ Aez _ (g0.ext (ab.trans hS)) (c2 _ (a8.ext hS)) ad) ?_;rintro v b5 ⟨rfl,a1⟩;have aa:=hS.trans a1;clear hS;apply LW.nil;refine QW.headed aa ?_;refine BD ?_;refine GW.tail rfl Ae1 (λhS=>?_);have hb:bq=decide (tc=B3 s.name (AL p c) tx):=by
    rw[b6,d6];by_cases e:tc=B3 s.name (AL p c) tx
    ·simp[ai,aj,e]
    ·simp[e]
   refine Sa ?_;exact QW.head () hS Ae8
  rintro⟨⟩ b5 a1;show CW _ _ _ _ _ [(0,.pointer (some ⟨A,0,none⟩)),(1,.slice an had.length ao),(2,.slice op c.length oc),(6,.int .i64 i),(7,.pointer (some ⟨X,0,none⟩)),(8,.int .i64 k'),(9,.int .i64 r),(11,.int .i64 y),(13,.int .i64 z1),(14,.int .i64 z2),(19,.slice (some a) p.length bc),(20,.int .i64 p.length),(21,.int .i64 i),(36,.slice (some ga) s.rows.length k),(37,.int .i64 s.rows.length),(38,.int .i64 r),(43,.slice (some gt) row.length c1),(44,.int .i64 row.length),(45,.int .i64 y),(101,.bool bq)] _;have b8:=a8.ext a1;have b9:=a3 _ b8;have ak:=a5.ext a1;have ac:Chg S0 w9 b5:=(a4.ext am).ext a1;refine Sa ?_;refine Av (λh4=>?_) λh4=>?_;rotate_left
  ·rw[b6] at h4;rw[if_neg (of_decide_eq_false h4)] at hK;refine Sw ?_;exact QW.again (y+1) ⟨by omega,ac,by show Ck _ _ _ (EM _ _ _ _ _ _ _ _ _ (y+1) _) _ _;rw[a7,hK];exact ak⟩ (Ai.cons rfl (Ai.cons rfl (Ai.cons rfl (Ai.cons rfl (Ai.cons rfl (Ai.cons rfl (Ai.cons rfl (Ai.cons rfl (Ai.cons rfl (Ai.cons rfl (Ai.cons rfl (Ai.cons rfl (Ai.cons rfl (Ai.cons rfl (Ai.cons rfl (Ai.cons rfl (Ai.nil))))))))))))))))) Aez
  rw[b6] at h4;have cg:=of_decide_eq_true h4;rw[if_pos cg] at hK;obtain⟨ai,aj,-⟩:=cg;obtain⟨rowc,a0⟩:∃r,u.rows[z1.toNat]?=some r:=⟨_,Aak Aez⟩;have d4:=aw.wide rowc (Aa9 a0);obtain⟨H0,xT,e1,e2,e3,e4⟩:=b1.at hu a0;obtain⟨TB,tb',TM,tm,tx',eqv,e9,d7,d8,tsp,d9⟩:=ak.at e1 e2 (λe=>by rw[e] at e3;simp at e3;omega);obtain⟨rfl,-,-⟩:=Acd eqv;rw[show((z1.toNat:Nat):Int).toNat=z1.toNat by omega] at d7;obtain⟨rowsH,xH,e5,e6,e7,e8⟩:=hfit.at hs a9;obtain⟨ea,eb,ec,rfl,da,ed⟩:=GZ.at (GZ.ext hh b9) e5;obtain⟨ee,ef,eg,rfl,-,bz,eh⟩:=AO.at da e6;obtain⟨vH,ci⟩:∃v,xH[y]?=some v:=⟨_,Aak Aez⟩;obtain⟨ei,rfl,-,db,ej⟩:=A4.at bz ci;have ek:=(Aav.1 e5).1;have el:=(Aav.1 e1).1;refine Sw ?_;refine CW.drawG (Ae b5) 19 (λw' h=>h) Ae1 λwc em=>?_;refine BD ?_;refine GW.tail rfl Ae1 (λhS=>?_);refine LW.store (i:=0+z2.toNat*1) (by show some (Value.pointer (some (Addr.add ⟨f k' z1.toNat,0,none⟩ (z2.toNat*1))))=_;rw[An]) rfl rfl (d9.ext hS) (Acw (by show _+1≤_;rw[Aax,Acg];omega)) rfl rfl λdd ba bb=>?_;rw[show 0+z2.toNat*1=z2.toNat by omega,AcT _ _ (by rw[Acg];omega),←List.map_set] at bb;have c0:=(ak.ext hS).set e1 e2 Aez db ba bb;have de:f k' z1.toNat∈S0:=(al _).2 ⟨d8,by
   obtain⟨rows0,x0,f1,f2,f3,f4⟩:=hf0.at hu a0;obtain⟨_,_,_,_,_,_,_,_,_,_,h9⟩:=hT1.at f1 f2 (λe=>by rw[e] at f3;simp at f3;omega);exact h9.lt⟩
  have bd:Chg S0 w9 dd:=(ac.ext hS).same (ba.mono λb hb _=>by simp only[Aaw] at hb;rw[hb];exact de);refine Sw ?_;exact QW.again (y+1) ⟨by omega,bd,by show Ck _ _ _ (EM _ _ _ _ _ _ _ _ _ (y+1) _) _ _;rw[a7,hK,Vl e5 e6 ci];exact c0⟩ (Ai.cons rfl (Ai.cons rfl (Ai.cons rfl (Ai.cons rfl (Ai.cons rfl (Ai.cons rfl (Ai.cons rfl (Ai.cons rfl (Ai.cons rfl (Ai.cons rfl (Ai.cons rfl (Ai.cons rfl (Ai.cons rfl (Ai.cons rfl (Ai.cons rfl (Ai.cons rfl (Ai.nil))))))))))))))))) Aez
theorem RZ:∀(r:List (List UInt8×Ag)) (st:Ag×AB),(r.foldl (λ(st:Ag×AB) x=>(x.2,H7 st.1 x.2 x.1 st.2)) st).1=((r.getLast?).map Prod.snd).getD st.1
 | [],st=>rfl
 | [x],st=>rfl
 | x::y::r,st=>by
  rw[Ad7,RZ (y::r),Aep]
  cases h:(y::r).getLast? with
  | none=>simp at h
  | some z=>rfl
theorem Ut(x0 x:List UInt8×Ag)(r:List (List UInt8×Ag)):Gg (x0::(r++[x]))=H7 (((x0::r).getLast?).map Prod.snd |>.getD []) x.2 x.1 (Gg (x0::r)):=by
 obtain⟨id,b⟩:=x0;show((r++[x]).foldl (λ(st:Ag×AB) x=>(x.2,H7 st.1 x.2 x.1 st.2)) (b,JA b id)).2=_;rw[AcN];show H7 (r.foldl (λ(st:Ag×AB) x=>(x.2,H7 st.1 x.2 x.1 st.2)) (b,JA b id)).1 x.2 x.1 _=_;rw[RZ]
 congr 1
 cases r with
 | nil=>rfl
 | cons y r=>
  rw[Aep]
  cases h:(y::r).getLast? with
  | none=>simp at h
  | some z=>rfl
theorem Us(x:List UInt8×Ag):DK (Gg [x]) x.2:=FL x.2 x.1
def Qk:Option Nat→Int
 | some i=>i
 | none=>-1
theorem XI{l:A7}{id:List UInt8}{k:Nat}{c:A9}(h:∀j d,j<k→l[j]?=some d→d.id≠id)(hk:l[k]?=some c)(hc:c.id≠id):∀j d,j<k+1→l[j]?=some d→d.id≠id:=λj d hj hd=>by
 by_cases e:j=k
 ·subst e;rw[hk] at hd;obtain rfl:=Aa5 hd;exact hc
 ·exact h j d Aez hd
theorem Rg{l:A7}{id:List UInt8}(h:∀j d,j<l.length→l[j]?=some d→d.id≠id):DM l id=none:=by
 cases e:DM l id with
 | none=>rfl
 | some k=>
  obtain⟨c,h1,h2,-⟩:=Ez e;exact absurd h2 (h k c (Aav.1 h1).1 h1)
theorem AaD(l:A7)(v:Value)(id:List UInt8)(w:World)(h:Dw w v l):AF prog 18 [v,Am id] w (λr w'=>r=.int .i64 (Qk (DM l id))∧Ae w w'):=by
 obtain⟨p,c,rfl⟩:=h.slice;have hl:=h.1;refine AQ func18 ntmps18 ?_;refine Sa ?_;refine CW.loop (ι:=Nat) (λk w'=>k≤l.length∧Ae w w'∧∀j d,j<k→l[j]?=some d→d.id≠id) (λk=>[(0,.slice p l.length c),(1,Am id),(5,.int .i64 k)]) (λk=>l.length - k) 0 ⟨by omega,Chg.refl _ _,λ_ _ h=>by omega⟩ Bh ?_;rintro k w1 ⟨hk,hx,a1⟩;replace h:=h.ext hx;refine Sa ?_;refine Av (λh2=>?_) λh2=>?_
 ·have h2:k<l.length:=by simp at h2;omega
  obtain⟨cm,hc⟩:∃s,l[k]?=some s:=⟨_,Aak h2⟩;obtain⟨a,q,n,bv,rfl,-,a0⟩:=Dw.at h hc;have a2:=a0 0 _ rfl;refine Sw ?_;refine Av (λh3=>?_) λh3=>?_
  ·have h3:cm.id=id:=by simpa using h3
   refine Sa ?_;exact QW.body1 rfl rfl ⟨by rw[JB hc h3 a1];rfl,hx⟩
  ·have h3:cm.id≠id:=by simpa using h3
   refine Sa ?_;exact QW.again (k+1) ⟨by omega,hx,XI a1 hc h3⟩ Bh Aez
 ·have h2:k=l.length:=by simp at h2;omega
  subst h2;refine Sa ?_;exact QW.body1 rfl rfl ⟨by rw[Rg a1];rfl,hx⟩
def Yh(l:A7)(k:Nat):List UInt8:=(l[k]?.map A9.id).getD []
def CA(l:A7)(id:List UInt8):List (List UInt8):=(Cq l id).map (Yh l)
theorem Qi{l:A7}{k:Nat}{c:A9}(h:l[k]?=some c):Yh l k=c.id:=by rw[Yh,h];rfl
theorem NN{l:A7}(h:EJ l=true){k:Nat}{c:A9}(hc:l[k]?=some c):DI l l.length (some k)=k::match c.parents with
  | []=>[]
  | p::_=>DI l l.length (DM l p):=by
 have hk:=(Aav.1 hc).1;obtain⟨n,hn⟩:∃q,l.length=q+1:=⟨l.length - 1,by omega⟩;rw[hn,DI,hc]
 congr 1
 simp only
 cases hp:c.parents with
 | nil=>rfl
 | cons p r=>
  simp only;obtain⟨j,hj,a0⟩:=Em h hc (p:=p) AfK;rw[hj];exact Uu h j n (n+1) Aez Aez Aez
def Yw:Option Nat→Nat
 | some k=>k+1
 | none=>0
theorem NM(l:A7)(n:Nat):DI l n none=[]:=by cases n<;>rfl
theorem W8(l:A7)(h:EJ l=true):∀(k:Nat),k<l.length→(DI l l.length (some k)).length≤k+1:=by
 intro k
 induction k using Nat.strongRecOn with
 | _ k ih=>
  intro hk;obtain⟨c,hc⟩:∃c,l[k]?=some c:=⟨_,Aak hk⟩;rw[NN h hc]
  cases hp:c.parents with
  | nil=>simp
  | cons p r=>
   obtain⟨j,hj,a0⟩:=Em h hc (p:=p) AfK;have:=ih j a0 Aez;simp only[hj,AaT];omega
theorem Po{l:A7}(h:EJ l=true)(id:List UInt8):(Cq l id).length≤l.length:=by
 unfold Cq
 cases e:DM l id with
 | none=>rw[NM];simp
 | some k=>have:=W8 l h k (HB e);have:=HB e;omega
theorem NL{xs:List (List UInt8×Ag)}{y:List UInt8×Ag}(x:List UInt8×Ag)(h:xs.getLast?=some y):Gg (xs++[x])=H7 y.2 x.2 x.1 (Gg xs):=by
 cases xs with
 | nil=>simp at h
 | cons x0 r=>
  rw[AcK,Ut,h];rfl
theorem RX:∀(n:Nat) {xs:List (List UInt8×Ag)} {y:List UInt8×Ag},xs.length=n→xs.getLast?=some y→DK (Gg xs) y.2
 | 0,xs,y,hl,h=>by
  have:xs=[]:=AbX hl;subst this
  simp at h
 | n+1,xs,y,hl,h=>by
  obtain⟨zs,z,rfl⟩:∃zs z,xs=zs++[z]:=⟨xs.dropLast,y,by
   have hn:xs≠[]:=λe=>by rw[e] at hl;simp at hl
   rw[List.getLast?_eq_some_getLast hn] at h;obtain rfl:=Aa5 h;exact(Adm hn).symm⟩
  rw[List.getLast?_append] at h;simp at h;subst h
  cases hz:zs.getLast? with
  | none=>
   have:zs=[]:=by simpa using hz
   subst this
   exact Us z
  | some u=>
   rw[NL z hz];exact OE _ _ _ _
def Lz(l:A7)(k:Nat):List UInt8×Ag:=match l[k]? with
 | some c=>(c.id,c.book)
 | none=>([],[])
theorem IZ{l:A7}{k:Nat}{c:A9}(h:l[k]?=some c):Lz l k=(c.id,c.book):=by rw[Lz,h]
noncomputable def Gc(l:A7)(id:List UInt8):AB:=Gg ((Cq l id).reverse.map (Lz l))
theorem Qw{l:A7}{id:List UInt8}:∀k∈Cq l id,k<l.length:=λk hk=>RY _ _ (λ_ h=>HB h) k hk
theorem Vt{l:A7}(hm:EJ l=true){id:List UInt8}{i k:Nat}(h:(Cq l id)[i]?=some k):∃c,l[k]?=some c∧(CA l id)[i]?=some c.id∧DM l c.id=some k:=by
 have hk:=Qw k (Aa9 h);obtain⟨c,hc⟩:∃c,l[k]?=some c:=⟨_,Aak hk⟩;refine⟨c,hc,?_,K3 hm hc⟩;rw[CA,AbA,h];exact congrArg some (Qi hc)
theorem W9(l:A7)(id:List UInt8):(CA l id).length=(Cq l id).length:=by rw[CA,Acg]
def F7(l:A7)(id:List UInt8)(i:Nat):List (List UInt8×Ag):=((Cq l id).drop i).reverse.map (Lz l)
theorem JF{l:A7}{id:List UInt8}{i k:Nat}(h:(Cq l id)[i]?=some k):F7 l id i=F7 l id (i+1)++[Lz l k]:=by
 have hi:=(Aav.1 h).1;have e:(Cq l id).drop i=k::(Cq l id).drop (i+1):=by
  rw[AcV hi]
  congr 1
  exact(Aav.1 h).2
 rw[F7,e,List.reverse_cons,Ac1];rfl
theorem JE{l:A7}{id:List UInt8}{i k:Nat}(h:(Cq l id)[i]?=some k):(F7 l id i).getLast?=some (Lz l k):=by
 rw[JF h,List.getLast?_append];rfl
theorem Wt{l:A7}{id:List UInt8}{i k:Nat}(h:(Cq l id)[i]?=some k)(hi:i+1=(Cq l id).length):F7 l id i=[Lz l k]:=by
 rw[JF h,F7,hi,Ad1];rfl
theorem TS{l:A7}{id:List UInt8}{i k j:Nat}{c p:A9}(hk:(Cq l id)[i]?=some k)(hj:(Cq l id)[i+1]?=some j)(hc:l[k]?=some c)(hp:l[j]?=some p):Gg (F7 l id i)=H7 p.book c.book c.id (Gg (F7 l id (i+1))):=by
 rw[JF hk,NL _ (JE hj),IZ hc,IZ hp]
theorem Np{l:A7}{id:List UInt8}{j:Nat}{i:Nat}{p:A9}(hj:(Cq l id)[i]?=some j)(hp:l[j]?=some p):DK (Gg (F7 l id i)) p.book:=by
 have:=RX _ rfl (JE hj)
 rwa [IZ hp] at this
theorem Zg{lo:Nat}{w:World}{rv:Nat→Value}{f:Nat→Nat→Nat}:Ck lo w (.slice none 0 0) [] rv f:=⟨E.A3.nil _ _ _ _,by simp,De.zero⟩
theorem Ck.low{lo lo':Nat}{w:World}{v:Value}{t:AB}{rv:Nat→Value}{f:Nat→Nat→Nat}(h:Ck lo w v t rv f)(hl:lo'≤lo):Ck lo' w v t rv f:=⟨h.own.low hl,h.small,⟨λj s hj hs=>(h.sub.rows j s hj hs).low hl,h.sub.apartV,h.sub.apart⟩⟩
theorem Uv{l:A7}{w:World}{v:Value}(h:Dk w v l)(id:List UInt8):∀s∈CA l id,s.length≤1000000:=λs hs=>by
 obtain⟨k,hk,rfl⟩:=Acu.1 hs;obtain⟨c,hc⟩:∃c,l[k]?=some c:=⟨_,Aak (Qw k hk)⟩;rw[Qi hc];exact(h.may c (Aa9 hc)).2
end Go.Proofs.YtefaigjfkddelaaGreatDoor
