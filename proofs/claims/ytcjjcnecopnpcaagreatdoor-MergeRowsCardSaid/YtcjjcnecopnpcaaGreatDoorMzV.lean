/-
  Joined by program out of the texts MerRc Law20R.
-/
import Derived.Test.YtcjjcnecopnpcaaGreatDoorMzT
namespace Go.Proofs.YtcjjcnecopnpcaaGreatDoor
open Tryz
open Go Go.E
def Ko(k i j p q:Nat):Bool:=Pu (A2 k) (DL k i (A6 p) (k+1)) (DL k j (AA q) (k+1)) (CU k i j (A6 p) (AA q) (k+1))
set_option maxHeartbeats 0 in
theorem Yq:∀i,i<2→∀j,j<2→∀p,p<3→∀q,q<3→Ko 1 i j (p+1) (q+1)=true:=by decide +kernel
set_option maxHeartbeats 0 in
theorem Yr:∀i,i<3→∀j,j<3→∀p,p<3→∀q,q<3→Ko 2 i j (p+1) (q+1)=true:=by decide +kernel
set_option maxHeartbeats 0 in
theorem Ys:∀i,i<4→∀j,j<4→∀p,p<3→∀q,q<3→Ko 3 i j (p+1) (q+1)=true:=by decide +kernel
set_option maxHeartbeats 0 in
theorem Yt:∀i,i<5→∀j,j<5→∀p,p<3→∀q,q<3→Ko 4 i j (p+1) (q+1)=true:=by decide +kernel
set_option maxHeartbeats 0 in
theorem Yu:∀i,i<6→∀j,j<6→∀p,p<3→∀q,q<3→Ko 5 i j (p+1) (q+1)=true:=by decide +kernel
set_option maxHeartbeats 0 in
theorem Yv:∀i,i<7→∀j,j<7→∀p,p<3→∀q,q<3→Ko 6 i j (p+1) (q+1)=true:=by decide +kernel
set_option maxHeartbeats 0 in
theorem Yw:∀i,i<8→∀j,j<8→∀p,p<3→∀q,q<3→Ko 7 i j (p+1) (q+1)=true:=by decide +kernel
set_option maxHeartbeats 0 in
theorem Yx:∀i,i<9→∀j,j<9→∀p,p<3→∀q,q<3→Ko 8 i j (p+1) (q+1)=true:=by decide +kernel
theorem Z7{k i j p q:Nat}(hk:k<9)(hk1:1≤k)(hi:i<k+1)(hj:j<k+1)(hp:p<4)(hp1:1≤p)(hq:q<4)(hq1:1≤q):Ko k i j p q=true:=by
 obtain⟨p,rfl⟩:∃x,p=x+1:=⟨p - 1,by omega⟩;obtain⟨q,rfl⟩:∃x,q=x+1:=⟨q - 1,by omega⟩
 match k,hk,hk1,hi,hj with
 | 1,_,_,hi,hj=>exact Yq i hi j hj p AdV q AdV
 | 2,_,_,hi,hj=>exact Yr i hi j hj p AdV q AdV
 | 3,_,_,hi,hj=>exact Ys i hi j hj p AdV q AdV
 | 4,_,_,hi,hj=>exact Yt i hi j hj p AdV q AdV
 | 5,_,_,hi,hj=>exact Yu i hi j hj p AdV q AdV
 | 6,_,_,hi,hj=>exact Yv i hi j hj p AdV q AdV
 | 7,_,_,hi,hj=>exact Yw i hi j hj p AdV q AdV
 | 8,_,_,hi,hj=>exact Yx i hi j hj p AdV q AdV
 | n+9,hk,_,_,_=>omega
theorem Rf(k i j:Nat)(l m:List Nat):∀n,(CU k i j l m n).length≤n+(if i<n then l.length else 0)+(if j<n then m.length else 0)
 | 0=>by simp[CU]
 | n+1=>by
  have ih:=Rf k i j l m n;have e:CU k i j l m (n+1)=CU k i j l m n++(K4 n i l++(K4 n j m++if n<k then[10+n] else[])):=by simp[CU,Ace]
  have h3:(if n<k then[10+n] else[]).length≤1:=by split<;>simp
  rw[e,B6,B6,B6];have h4:(if i<n then l.length else 0)+(K4 n i l).length≤if i<n+1 then l.length else 0:=by
   unfold K4;by_cases e1:n=i
   ·rw[if_pos e1,if_neg AdV,if_pos AdV];omega
   ·rw[if_neg e1];by_cases e2:i<n
    ·rw[if_pos e2,if_pos AdV];simp
    ·rw[if_neg e2];simp
  have h5:(if j<n then m.length else 0)+(K4 n j m).length≤if j<n+1 then m.length else 0:=by
   unfold K4;by_cases e1:n=j
   ·rw[if_pos e1,if_neg AdV,if_pos AdV];omega
   ·rw[if_neg e1];by_cases e2:j<n
    ·rw[if_pos e2,if_pos AdV];simp
    ·rw[if_neg e2];simp
  omega
theorem T5{k i j p q:Nat}(hk:k<9)(hk1:1≤k)(hi:i<k+1)(hj:j<k+1)(hp:p<4)(hp1:1≤p)(hq:q<4)(hq1:1≤q) :
  CN (A4 ((A2 k).map (AQ Gi Gm))) (A4 ((DL k i (A6 p) (k+1)).map (AQ Gi Gm))) (A4 ((DL k j (AA q) (k+1)).map (AQ Gi Gm)))=⟨A4 ((CU k i j (A6 p) (AA q) (k+1)).map (AQ Gi Gm)),[],0⟩:=by
 have:=OR (a:=Gi) (b:=Gm) rfl rfl AdZ AdZ Rs (CG AdV) (Me AdV (G1 AdV)) (Me AdV (G2 AdV)) (Z7 hk hk1 hi hj hp hp1 hq hq1);rw[this,if_neg];have h0:=Rf k i j (A6 p) (AA q) (k+1);rw[show(A6 p).length=p by simp[A6],show(AA q).length=q by simp[AA],if_pos AdV,if_pos AdV] at h0;omega
theorem IK(k i:Nat)(l:List Nat)(n:Nat):DL k i l (n+1)=DL k i l n++(K4 n i l++if n<k then[10+n] else[]):=by simp[DL,Ace]
theorem J3(k i j:Nat)(l m:List Nat)(n:Nat):CU k i j l m (n+1)=CU k i j l m n++(K4 n i l++(K4 n j m++if n<k then[10+n] else[])):=by simp[CU,Ace]
theorem Mu(r i:Nat)(l:List Nat):(K4 r i l).length≤l.length:=by unfold K4;split<;>simp
theorem MR(k i:Nat)(l:List Nat):∀n,(DL k i l n).length≤n*(l.length+1)
 | 0=>by simp[DL]
 | n+1=>by
  have h1:=MR k i l n;have h2:=Mu n i l;have h3:(if n<k then[10+n] else[]).length≤1:=by split<;>simp
  rw[IK,B6,B6,Acw,Nat.one_mul];omega
theorem OE(k i j:Nat)(l m:List Nat):∀n,(CU k i j l m n).length≤n*(l.length+m.length+1)
 | 0=>by simp[CU]
 | n+1=>by
  have h1:=OE k i j l m n;have h2:=Mu n i l;have h4:=Mu n j m;have h3:(if n<k then[10+n] else[]).length≤1:=by split<;>simp
  rw[J3,B6,B6,B6,Acw,Nat.one_mul];omega
theorem XI{k i j n:Nat}{l m:List Nat}(hk:k≤12)(hl:l ⊆ Eh)(hm:m ⊆ Eh):CU k i j l m n ⊆ Eh:=λs hs=>by
 have ha:∀r i (l:List Nat),l ⊆ Eh→s∈K4 r i l→s∈Eh:=λr i l hl h=>by
  unfold K4 at h
  split at h
  ·exact hl h
  ·cases h
 obtain⟨r,hr,hs⟩:=AcV.1 hs;rcases AaC.1 hs with h | h
 ·exact ha r i l hl h
 rcases AaC.1 h with h | h
 ·exact ha r j m hm h
 ·split at h
  ·exact CG hk (AbJ.2 ⟨r,Acg.2 Aep,(B3.1 h).symm⟩)
  ·cases h
abbrev WR:Nat→List UInt8:=AQ Gi Gm
theorem TM{r i m:Nat}{l:Nat→List Nat}(hl0:l 0=[]){p:Nat}(hm:m≤p)(h0:0<m→r=i)(h:¬(m<p∧r=i)):l m=K4 r i (l p):=by
 unfold K4;by_cases e:r=i
 ·rw[if_pos e,show m=p by omega]
 ·rw[if_neg e,show m=0 by omega,hl0]
set_option maxRecDepth 8000 in
set_option maxHeartbeats 8000000 in
theorem NO(n at' to a b:Nat)(w:World)(g:CT w)(hn:n<256)(hat:at'<256)(hto:to<256)(ha:a<256)(hb:b<256):AN prog 11 [.int .u8 n,.int .u8 at',.int .u8 to,.int .u8 a,.int .u8 b] w (λr w'=>r=.bool true∧Ah w w'):=by
 obtain⟨hm,-⟩:=FZ (a:=Gi) (b:=Gm) rfl rfl AdZ AdZ Rs;refine Bq func11 ntmps11 ?_;refine Sw ?_;obtain⟨k,hk⟩:∃k:Nat,1+(n:Int) % 8=(k:Int):=⟨1+n % 8,by omega⟩;have aq:k<9∧1≤k:=AdV
 obtain⟨be,aq⟩:=aq;rw[hk];clear hk;obtain⟨i,hi⟩:∃i:Nat,(at':Int) % ((k:Int)+1)=(i:Int):=⟨((at':Int) % ((k:Int)+1)).toNat,(Acr (Adr _ AdV)).symm⟩;have br:i≤k:=by have:=Ada (at':Int) (show(0:Int)<(k:Int)+1 by omega);omega
 obtain⟨j,hj⟩:∃j:Nat,(to:Int) % ((k:Int)+1)=(j:Int):=⟨((to:Int) % ((k:Int)+1)).toNat,(Acr (Adr _ AdV)).symm⟩;have bs:j≤k:=by have:=Ada (to:Int) (show(0:Int)<(k:Int)+1 by omega);omega
 obtain⟨p,hp⟩:∃p:Nat,1+(a:Int) % 3=(p:Int):=⟨1+a % 3,by omega⟩;obtain⟨q,hq⟩:∃q:Nat,1+(b:Int) % 3=(q:Int):=⟨1+b % 3,by omega⟩;have b5:p<4∧1≤p:=AdV
 have b6:q<4∧1≤q:=AdV
 refine CW.drawG (Ah w) 11 (λw' h=>h) AdX λwa bf=>?_;refine Ay ?_;refine GW.tail rfl AdX (λhS=>?_);rw[hi,hj];clear hi hj;refine Sw ?_;rw[hp,hq];clear hp hq;have bg:=EV p;have bh:=Fg q;have ar:∀n,n≤9→(DL k i (A6 p) n).length≤50∧(DL k j (AA q) n).length≤50∧(CU k i j (A6 p) (AA q) n).length≤100:=λn hn=>by
  have h1:=MR k i (A6 p) n;have h2:=MR k j (AA q) n;have h3:=OE k i j (A6 p) (AA q) n;rw[EV] at h1 h3;rw[Fg] at h2 h3;refine⟨Aci h1 (Aci (AcA hn (show p+1≤4 by omega)) AdZ),Aci h2 (Aci (AcA hn (show q+1≤4 by omega)) AdZ),Aci h3 (Aci (AcA hn (show p+q+1≤7 by omega)) AdZ)⟩
 have b7:Bk wa w.heap.size (Ge (.slice none 0 0) (.slice none 0 0) (.slice none 0 0) (.slice none 0 0)) (Ge [] [] [] []):=by rw[←OT,←OT];exact Bk.nil _ _
 refine CW.loop (ι:=Nat×Value×Value×Value×Value) (λx w'=>x.1≤k∧Ah w w'∧Bk w' w.heap.size (Ge x.2.1 x.2.2.1 x.2.2.2.1 x.2.2.2.2) (Ge ((A2 x.1).map WR) ((DL k i (A6 p) x.1).map WR) ((DL k j (AA q) x.1).map WR) ((CU k i j (A6 p) (AA q) x.1).map WR))) (λx=>[(11,.int .i64 k),(12,.int .i64 i),(13,.int .i64 j),(14,.int .i64 p),(15,.int .i64 q),(16,x.2.1),(17,x.2.2.1),(18,x.2.2.2.1),(19,x.2.2.2.2),(20,.int .i64 x.1)]) (λx=>k - x.1) (0,.slice none 0 0,.slice none 0 0,.slice none 0 0,.slice none 0 0) ⟨Acp _,hS,b7⟩ HB ?_;clear hS b7;rintro⟨r,ov,xv,yv,zv⟩ w1 ⟨hr,b8,au⟩;dsimp only at hr au;show CW _ _ _ _ _ [(11,.int .i64 (k:Int)),(12,.int .i64 (i:Int)),(13,.int .i64 (j:Int)),(14,.int .i64 (p:Int)),(15,.int .i64 (q:Int)),(16,ov),(17,xv),(18,yv),(19,zv),(20,.int .i64 (r:Int))] _;obtain⟨l1,l2,l3⟩:=ar r AdV;refine Sw ?_;refine AB (λh1=>?_) λh1=>?_;rotate_left
 ·exfalso;simp at h1;omega
 clear h1;refine Sw ?_;refine CW.loop (ι:=Nat×Value×Value) (λy w'=>y.1≤p∧(0<y.1→r=i)∧Ah w w'∧Bk w' w.heap.size (Ge ov y.2.1 yv y.2.2) (Ge ((A2 r).map WR) ((DL k i (A6 p) r++A6 y.1).map WR) ((DL k j (AA q) r).map WR) ((CU k i j (A6 p) (AA q) r++A6 y.1).map WR))) (λy=>[(11,.int .i64 k),(12,.int .i64 i),(13,.int .i64 j),(14,.int .i64 p),(15,.int .i64 q),(16,ov),(17,y.2.1),(18,yv),(19,y.2.2),(20,.int .i64 r),(21,.int .i64 y.1)]) (λy=>p - y.1) (0,xv,zv) ⟨Acp _,λh=>absurd h (Aec 0),b8,by rw[show A6 0=[] from rfl,AbG,AbG];exact au⟩ KX ?_;clear au b8;rintro⟨m,x,z⟩ w2 ⟨ah,ai,ab,a4⟩;dsimp only at ah ai a4;show CW _ _ _ _ _ [(11,.int .i64 (k:Int)),(12,.int .i64 (i:Int)),(13,.int .i64 (j:Int)),(14,.int .i64 (p:Int)),(15,.int .i64 (q:Int)),(16,ov),(17,x),(18,yv),(19,z),(20,.int .i64 (r:Int)),(21,.int .i64 (m:Int))] _;have b9:=ab.size;have om:=EV m;apply CW.seq;refine CW.seq_cut (ι:=Unit) (λ_ w'=>w'=w2) (λ_=>[(60,.bool (decide (m<p∧r=i))),(11,.int .i64 (k:Int)),(12,.int .i64 (i:Int)),(13,.int .i64 (j:Int)),(14,.int .i64 (p:Int)),(15,.int .i64 (q:Int)),(16,ov),(17,x),(18,yv),(19,z),(20,.int .i64 (r:Int)),(21,.int .i64 (m:Int))]) ?_ ?_
 ·by_cases c:m<p
  ·refine Sw ?_;refine LW.know (t:=56) (c:=true) rfl AdY ?_;refine Sw ?_;exact QW.head () rfl (Al.cons (by show some (Value.bool (decide ((r:Int)=(i:Int))))=some (Value.bool (decide (m<p∧r=i)));rw[decide_eq_decide.2 (show(r:Int)=(i:Int)↔(m<p∧r=i) by omega)]) (Al.cons rfl (Al.cons rfl (Al.cons rfl (Al.cons rfl (Al.cons rfl (Al.cons rfl (Al.cons rfl (Al.cons rfl (Al.cons rfl (Al.cons rfl (Al.cons rfl (Al.nil)))))))))))))
  ·refine Sw ?_;refine LW.know (t:=56) (c:=false) rfl AdY ?_;refine Sw ?_;exact QW.head () rfl (Al.cons (by show some (Value.bool false)=some (Value.bool (decide (m<p∧r=i)));rw[decide_eq_false (show ¬(m<p∧r=i) by omega)]) (Al.cons rfl (Al.cons rfl (Al.cons rfl (Al.cons rfl (Al.cons rfl (Al.cons rfl (Al.cons rfl (Al.cons rfl (Al.cons rfl (Al.cons rfl (Al.cons rfl (Al.nil)))))))))))))
 rintro⟨⟩ w2 rfl;dsimp only;refine AB (λh1=>?_) λh1=>?_
 ·have h1:m<p∧r=i:=by simpa using h1
  refine Sw ?_;refine Ar rfl rfl (AK (m:Int) AdV AdV _) ?_;rintro u w3 ⟨rfl,a3⟩;have bi:=a3.size;have bj:=Lib.itoa_length_le (m:Int) AdV AdV;refine Sw ?_;refine CF λzq3 w4 ac a0 a5=>?_;have ad:=a0.size;refine Sw ?_;refine LW.push 1 ((a4.ext a3).ext a0) a5 AdV (by show((DL k i (A6 p) r++A6 m).map _).length≤1000;rw[Abr,B6];omega) ?_;intro u5 w5 a6 aa;rw[Uz,Uz] at aa;have a9:=(ab.trans (a3.trans a0)).step a6 λb hb=>(E.Own.lt (a4.own 1) hb).1;have av:=a9.size;refine Sw ?_;refine Ar rfl rfl (AK (m:Int) AdV AdV _) ?_;rintro u w6 ⟨rfl,a7⟩;have aw:=a7.size;refine Sw ?_;refine CF λzq6 w7 bk a8 ax=>?_;have ay:=a8.size;refine Sw ?_;refine LW.push 3 ((aa.ext a7).ext a8) ax AdV (by show((CU k i j (A6 p) (AA q) r++A6 m).map _).length≤1000;rw[Abr,B6];omega) ?_;intro u8 w8 az ag;rw[OS,OS] at ag;have ae:=(a9.trans (a7.trans a8)).step az λb hb=>(E.Own.lt (aa.own 3) hb).1;refine Sw ?_;refine QW.again (m+1,u5,u8) ⟨by show m+1≤p;omega,λ_=>h1.2,ae,?_⟩ KX (by show p - (m+1)<p - m;omega);show Bk _ _ _ (Ge _ ((DL k i (A6 p) r++A6 (m+1)).map _) _ ((CU k i j (A6 p) (AA q) r++A6 (m+1)).map _));rw[Nd,←List.append_assoc,←List.append_assoc,CM _ _ _ (KU Gi Gm AdV),CM _ _ _ (KU Gi Gm AdV)];exact ag
 have h1:¬(m<p∧r=i):=by simpa using h1
 rw[TM (l:=A6) rfl ah ai h1] at a4;have a1:=Mu r i (A6 p);clear om ah ai h1;refine Sw ?_;refine CW.loop (ι:=Nat×Value×Value) (λt w'=>t.1≤q∧(0<t.1→r=j)∧Ah w w'∧Bk w' w.heap.size (Ge ov x t.2.1 t.2.2) (Ge ((A2 r).map WR) ((DL k i (A6 p) r++K4 r i (A6 p)).map WR) ((DL k j (AA q) r++AA t.1).map WR) ((CU k i j (A6 p) (AA q) r++K4 r i (A6 p)++AA t.1).map WR))) (λt=>[(11,.int .i64 k),(12,.int .i64 i),(13,.int .i64 j),(14,.int .i64 p),(15,.int .i64 q),(16,ov),(17,x),(18,t.2.1),(19,t.2.2),(20,.int .i64 r),(22,.int .i64 t.1)]) (λt=>q - t.1) (0,yv,z) ⟨Acp _,λh=>absurd h (Aec 0),ab,by rw[show AA 0=[] from rfl,AbG,AbG];exact a4⟩ KX ?_;clear a4 ab b9;rintro⟨m2,y,z⟩ w3 ⟨ah,ai,ab,a4⟩;dsimp only at ah ai a4;show CW _ _ _ _ _ [(11,.int .i64 (k:Int)),(12,.int .i64 (i:Int)),(13,.int .i64 (j:Int)),(14,.int .i64 (p:Int)),(15,.int .i64 (q:Int)),(16,ov),(17,x),(18,y),(19,z),(20,.int .i64 (r:Int)),(22,.int .i64 (m2:Int))] _;have b9:=ab.size;have om:=Fg m2;apply CW.seq;refine CW.seq_cut (ι:=Unit) (λ_ w'=>w'=w3) (λ_=>[(82,.bool (decide (m2<q∧r=j))),(11,.int .i64 (k:Int)),(12,.int .i64 (i:Int)),(13,.int .i64 (j:Int)),(14,.int .i64 (p:Int)),(15,.int .i64 (q:Int)),(16,ov),(17,x),(18,y),(19,z),(20,.int .i64 (r:Int)),(22,.int .i64 (m2:Int))]) ?_ ?_
 ·by_cases c:m2<q
  ·refine Sw ?_;refine LW.know (t:=78) (c:=true) rfl AdY ?_;refine Sw ?_;exact QW.head () rfl (Al.cons (by show some (Value.bool (decide ((r:Int)=(j:Int))))=some (Value.bool (decide (m2<q∧r=j)));rw[decide_eq_decide.2 (show(r:Int)=(j:Int)↔(m2<q∧r=j) by omega)]) (Al.cons rfl (Al.cons rfl (Al.cons rfl (Al.cons rfl (Al.cons rfl (Al.cons rfl (Al.cons rfl (Al.cons rfl (Al.cons rfl (Al.cons rfl (Al.cons rfl (Al.nil)))))))))))))
  ·refine Sw ?_;refine LW.know (t:=78) (c:=false) rfl AdY ?_;refine Sw ?_;exact QW.head () rfl (Al.cons (by show some (Value.bool false)=some (Value.bool (decide (m2<q∧r=j)));rw[decide_eq_false (show ¬(m2<q∧r=j) by omega)]) (Al.cons rfl (Al.cons rfl (Al.cons rfl (Al.cons rfl (Al.cons rfl (Al.cons rfl (Al.cons rfl (Al.cons rfl (Al.cons rfl (Al.cons rfl (Al.cons rfl (Al.nil)))))))))))))
 rintro⟨⟩ w3 rfl;dsimp only;refine AB (λh1=>?_) λh1=>?_
 ·have h1:m2<q∧r=j:=by simpa using h1
  refine Sw ?_;refine Ar rfl rfl (AK (m2:Int) AdV AdV _) ?_;rintro u w4 ⟨rfl,a3⟩;have bi:=a3.size;have bj:=Lib.itoa_length_le (m2:Int) AdV AdV;refine Sw ?_;refine CF λzq3 w5 ac a0 a5=>?_;have ad:=a0.size;refine Sw ?_;refine LW.push 2 ((a4.ext a3).ext a0) a5 AdV (by show((DL k j (AA q) r++AA m2).map _).length≤1000;rw[Abr,B6];omega) ?_;intro u5 w6 a6 aa;rw[U0,U0] at aa;have a9:=(ab.trans (a3.trans a0)).step a6 λb hb=>(E.Own.lt (a4.own 2) hb).1;have av:=a9.size;refine Sw ?_;refine Ar rfl rfl (AK (m2:Int) AdV AdV _) ?_;rintro u w7 ⟨rfl,a7⟩;have aw:=a7.size;refine Sw ?_;refine CF λzq6 w8 bk a8 ax=>?_;have ay:=a8.size;refine Sw ?_;refine LW.push 3 ((aa.ext a7).ext a8) ax AdV (by show((CU k i j (A6 p) (AA q) r++K4 r i (A6 p)++AA m2).map _).length≤1000;rw[Abr,B6,B6];omega) ?_;intro u8 w9 az ag;rw[OS,OS] at ag;have ae:=(a9.trans (a7.trans a8)).step az λb hb=>(E.Own.lt (aa.own 3) hb).1;refine Sw ?_;refine QW.again (m2+1,u5,u8) ⟨by show m2+1≤q;omega,λ_=>h1.2,ae,?_⟩ KX (by show q - (m2+1)<q - m2;omega);show Bk _ _ _ (Ge _ _ ((DL k j (AA q) r++AA (m2+1)).map _) ((CU k i j (A6 p) (AA q) r++K4 r i (A6 p)++AA (m2+1)).map _));rw[NC,←List.append_assoc,←List.append_assoc,CM _ _ _ (KV Gi Gm m2),CM _ _ _ (KV Gi Gm m2)];exact ag
 have h1:¬(m2<q∧r=j):=by simpa using h1
 rw[TM (l:=AA) rfl ah ai h1] at a4;have a2:=Mu r j (AA q);clear om ah ai h1;refine Sw ?_;refine AB (λh1=>?_) λh1=>?_;rotate_left
 ·have h1:r<k:=by simp at h1;omega
  have wo:=Sb Gi Gm (show r<20 by omega);refine Sw ?_;refine Ar rfl rfl (AK (100+(r:Int)) AdV AdV _) ?_;rintro u w4 ⟨rfl,a3⟩;refine Sw ?_;refine CF λzq3 w5 ac a0 a5=>?_;have ad:=(a3.trans a0).size;refine Sw ?_;refine LW.push 0 ((a4.ext a3).ext a0) a5 AdV AeJ ?_;intro u5 w6 a6 aa;rw[Aac,Aac] at aa;have a9:=(ab.trans (a3.trans a0)).step a6 λb hb=>(E.Own.lt (a4.own 0) hb).1;have av:=a9.size;clear a4 ab a3 a0 a6 ad a5 ac;refine Sw ?_;refine Ar rfl rfl (AK (100+(r:Int)) AdV AdV _) ?_;rintro u w7 ⟨rfl,a3⟩;refine Sw ?_;refine CF λzq6 w8 ac a0 a5=>?_;have ad:=(a3.trans a0).size;refine Sw ?_;refine LW.push 1 ((aa.ext a3).ext a0) a5 AdV (by show((DL k i (A6 p) r++K4 r i (A6 p)).map _).length≤1000;rw[Abr,B6];omega) ?_;intro u6 w9 a6 ao;rw[Uz,Uz] at ao;have a7:=(a9.trans (a3.trans a0)).step a6 λb hb=>(E.Own.lt (aa.own 1) hb).1;have aw:=a7.size;clear aa a9 a3 a0 a6 ad av a5 ac;refine Sw ?_;refine Ar rfl rfl (AK (100+(r:Int)) AdV AdV _) ?_;rintro u bt ⟨rfl,a3⟩;refine Sw ?_;refine CF λzq7 bu ac a0 a5=>?_;have ad:=(a3.trans a0).size;refine Sw ?_;refine LW.push 2 ((ao.ext a3).ext a0) a5 AdV (by show((DL k j (AA q) r++K4 r j (AA q)).map _).length≤1000;rw[Abr,B6];omega) ?_;intro u7 bv a6 ap;rw[U0,U0] at ap;have a8:=(a7.trans (a3.trans a0)).step a6 λb hb=>(E.Own.lt (ao.own 2) hb).1;have ay:=a8.size;clear ao a7 a3 a0 a6 ad aw a5 ac;refine Sw ?_;refine Ar rfl rfl (AK (100+(r:Int)) AdV AdV _) ?_;rintro u bw ⟨rfl,a3⟩;refine Sw ?_;refine CF λzq8 bx ac a0 a5=>?_;have ad:=(a3.trans a0).size;refine Sw ?_;refine LW.push 3 ((ap.ext a3).ext a0) a5 AdV (by show((CU k i j (A6 p) (AA q) r++K4 r i (A6 p)++K4 r j (AA q)).map _).length≤1000;rw[Abr,B6,B6];omega) ?_;intro u8 bz a6 ag;rw[OS,OS] at ag;have ae:=(a8.trans (a3.trans a0)).step a6 λb hb=>(E.Own.lt (ap.own 3) hb).1;clear ap a8 a3 a0 a6 ad ay a5 ac;refine Sw ?_;refine QW.again (r+1,u5,u6,u7,u8) ⟨by show r+1≤k;omega,ae,?_⟩ HB Afb
  show Bk _ _ _ (Ge ((A2 (r+1)).map WR) ((DL k i (A6 p) (r+1)).map WR) ((DL k j (AA q) (r+1)).map WR) ((CU k i j (A6 p) (AA q) (r+1)).map WR));rw[IU,IK,IK,J3,if_pos h1,←List.append_assoc,←List.append_assoc,←List.append_assoc,←List.append_assoc,CM _ _ _ wo,CM _ _ _ wo,CM _ _ _ wo,CM _ _ _ wo];exact ag
 have h1:r=k:=by simp at h1;omega
 subst h1;have hF:Bk w3 w.heap.size (Ge ov x y z) (Ge ((A2 r).map WR) ((DL r i (A6 p) (r+1)).map WR) ((DL r j (AA q) (r+1)).map WR) ((CU r i j (A6 p) (AA q) (r+1)).map WR)):=by
  simpa only[IK,J3,Aec,if_false,AbG,B8] using a4
 obtain⟨l1,l2,l3⟩:=ar (r+1) AdV;have b0:((A2 r).map WR).length≤1000:=by rw[Abr,B4];omega
 have b1:((DL r i (A6 p) (r+1)).map WR).length≤1000:=by rw[Abr];omega
 have b2:((DL r j (AA q) (r+1)).map WR).length≤1000:=by rw[Abr];omega
 have b3:((CU r i j (A6 p) (AA q) (r+1)).map WR).length≤1000:=by rw[Abr];omega
 have hO:=DW.texts (hF.own 0) b0 (C3 hm (CG AdV));have hX:=DW.texts (hF.own 1) b1 (C3 hm (Me AdV (G1 AdV)));have hY:=DW.texts (hF.own 2) b2 (C3 hm (Me AdV (G2 AdV)));have hZ:=DW.texts (hF.own 3) b3 (C3 hm (XI AdV (G1 AdV) (G2 AdV)));have rm:=T5 (k:=r) (i:=i) (j:=j) (p:=p) (q:=q) be aq AdV AdV b5.1 b5.2 b6.1 b6.2;obtain⟨Z,b4⟩:∃Z,Z=(CU r i j (A6 p) (AA q) (r+1)).map WR:=⟨_,rfl⟩;rw[←b4] at rm b3;replace hZ:Bz w3 z Z:=by rw[b4];exact hZ
 clear a4 hF ar l1 l2 l3 a1 a2 bg bh b4;refine Sw ?_;refine Ar rfl rfl (An _ _ w3 hO b0) ?_;rintro u w4 ⟨v1,rfl,ba,a0⟩;refine Sw ?_;refine Ar rfl rfl (An _ _ w4 (Ak.ext hX a0) b1) ?_;rintro u w5 ⟨v2,rfl,bb,a9⟩;refine Sw ?_;refine Ar rfl rfl (An _ _ w5 (Ak.ext (Ak.ext hY a0) a9) b2) ?_;rintro u w6 ⟨v3,rfl,bc,a7⟩;have aj:=a9.trans a7;have ak:=a0.trans aj;have al:=ab.trans ak;have t:=E9 (A4 ((A2 r).map WR)) (A4 ((DL r i (A6 p) (r+1)).map WR)) (A4 ((DL r j (AA q) (r+1)).map WR)) v1 v2 v3 w6 (g.ext al) (Aa.ext ba aj) (Aa.ext bb a7) bc;rw[rm] at t;replace hZ:=Ak.ext hZ ak;clear hO hX hY ba bb bc a0 a9 a7 aj ak rm;refine Sw ?_;refine Ar rfl rfl t ?_;rintro u w7 ⟨mv,cv,rfl,am,hC,a8⟩;obtain⟨cp,cc,rfl⟩:=DZ hC;obtain⟨op,oc,rfl⟩:=Ab.slice am;refine Sw ?_;refine Bt λM w8 c0 ae hM=>?_;have c1:=ae.size;refine Sw ?_;refine AM λw9 bd hM=>?_;replace hM:Blk w9 M [.slice op (A4 Z).length oc] 24:=hM;replace am:AR w7 (.slice op (A4 Z).length oc) (A4 Z):=am;have af:Ah w7 w9:=ae.step bd AdY;have bl:=Aa.ext am af;have bm:=Ak.ext (Ak.ext hZ a8) af;have an:=(al.trans a8).trans af;clear hZ t am hC a8 ae bd af al ab;refine Sw ?_;refine CW.drawG (Ah w9) 17 (λw' h=>h) AdX λwa bf=>?_;refine Ay ?_;refine Bd 1 λhS=>?_;refine Ar rfl rfl (I5 0 _) ?_;rintro u wb ⟨rfl,bn⟩;have hE:=hS.trans bn;clear hS;apply LW.nil;refine QW.headed hE ?_;refine Ay ?_;refine Bd 11 λhS=>?_;refine Sl ?_;refine Ar rfl rfl (An _ _ wb (Ak.ext bm hS) b3) ?_;rintro u wd ⟨v4,rfl,h4,bo⟩;have hE:=hS.trans bo;clear hS;apply LW.nil;refine QW.headed hE ?_;refine Ay ?_;refine Bd 12 λhS=>?_;refine Sl ?_;refine Ar rfl rfl (JL _ _ _ _ wd (Aa.ext bl hS) h4) ?_;rintro u we ⟨rfl,bp⟩;rw[decide_eq_true (rfl:A4 Z=A4 Z)];have hE:=hS.trans bp;clear hS;apply LW.nil;refine QW.headed hE ?_;refine Ay ?_;refine Bd 15 λhS=>?_;refine Sl ?_;refine Ar rfl rfl (EQ _ (g.ext (an.trans hS))) ?_;rintro u wf ⟨rfl,bq⟩;have hE:=hS.trans bq;clear hS;apply LW.nil;refine QW.headed hE ?_;refine Ay ?_;refine GW.tail rfl AdX (λhS=>?_);refine Sw ?_;exact QW.body1 rfl rfl ⟨rfl,an.trans hS⟩
end Go.Proofs.YtcjjcnecopnpcaaGreatDoor
