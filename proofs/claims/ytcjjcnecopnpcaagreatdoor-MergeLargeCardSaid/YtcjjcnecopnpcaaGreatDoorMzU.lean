/-
  Joined by program out of the texts MerLc Law20L.
-/
import Derived.Test.YtcjjcnecopnpcaaGreatDoorMzT
namespace Go.Proofs.YtcjjcnecopnpcaaGreatDoor
open Tryz
open Go Go.E
def Ep(k p q:Nat):Bool:=(p == 0&&q == 0)||if 24<k+p+q then(A2 k).isSublist (A2 k++A6 p)&&(A2 k).isSublist (A2 k++AA q)&&decide (A2 k++A6 p≠A2 k++AA q)&&decide (24<(A8 ⟨YH (A2 k) (A2 k++A6 p),(A2 k++A6 p).length⟩ ⟨YH (A2 k) (A2 k++AA q),(A2 k++AA q).length⟩).now) else Pu (A2 k) (A2 k++A6 p) (A2 k++AA q) (A2 k++A6 p++AA q)
set_option maxHeartbeats 0 in
theorem Vw:∀p,p<13→∀q,q<13→Ep 1 p q=true:=by decide +kernel
set_option maxHeartbeats 0 in
theorem Vx:∀p,p<13→∀q,q<13→Ep 2 p q=true:=by decide +kernel
set_option maxHeartbeats 0 in
theorem Vy:∀p,p<13→∀q,q<13→Ep 3 p q=true:=by decide +kernel
set_option maxHeartbeats 0 in
theorem Vz:∀p,p<13→∀q,q<13→Ep 4 p q=true:=by decide +kernel
set_option maxHeartbeats 0 in
theorem V0:∀p,p<13→∀q,q<13→Ep 5 p q=true:=by decide +kernel
set_option maxHeartbeats 0 in
theorem V1:∀p,p<13→∀q,q<13→Ep 6 p q=true:=by decide +kernel
set_option maxHeartbeats 0 in
theorem V2:∀p,p<13→∀q,q<13→Ep 7 p q=true:=by decide +kernel
set_option maxHeartbeats 0 in
theorem V3:∀p,p<13→∀q,q<13→Ep 8 p q=true:=by decide +kernel
set_option maxHeartbeats 0 in
theorem V4:∀p,p<13→∀q,q<13→Ep 9 p q=true:=by decide +kernel
set_option maxHeartbeats 0 in
theorem SQ:∀p,p<13→∀q,q<13→Ep 10 p q=true:=by decide +kernel
set_option maxHeartbeats 0 in
theorem SR:∀p,p<13→∀q,q<13→Ep 11 p q=true:=by decide +kernel
set_option maxHeartbeats 0 in
theorem SS:∀p,p<13→∀q,q<13→Ep 12 p q=true:=by decide +kernel
theorem X7{k p q:Nat}(hk:k<13)(hk1:1≤k)(hp:p<13)(hq:q<13):Ep k p q=true:=by
 match k,hk,hk1 with
 | 1,_,_=>exact Vw p hp q hq
 | 2,_,_=>exact Vx p hp q hq
 | 3,_,_=>exact Vy p hp q hq
 | 4,_,_=>exact Vz p hp q hq
 | 5,_,_=>exact V0 p hp q hq
 | 6,_,_=>exact V1 p hp q hq
 | 7,_,_=>exact V2 p hp q hq
 | 8,_,_=>exact V3 p hp q hq
 | 9,_,_=>exact V4 p hp q hq
 | 10,_,_=>exact SQ p hp q hq
 | 11,_,_=>exact SR p hp q hq
 | 12,_,_=>exact SS p hp q hq
 | n+13,hk,_=>omega
theorem QU{k p q:Nat}(hk:k<13)(hk1:1≤k)(hp:p<13)(hq:q<13) :
  CN (A4 ((A2 k).map (AQ aW bW))) (A4 ((A2 k++A6 p).map (AQ aW bW))) (A4 ((A2 k++AA q).map (AQ aW bW)))=if 24<k+p+q then⟨[],[],4⟩ else⟨A4 ((A2 k++A6 p++AA q).map (AQ aW bW)),[],0⟩:=by
 have ln:(A2 k++A6 p++AA q).length=k+p+q:=by simp[A2,A6,AA];omega
 have hc:=X7 hk hk1 hp hq;unfold Ep at hc;simp only[Acn,AaG,beq_iff_eq] at hc;rcases hc with ⟨rfl,rfl⟩ | hc
 ·rw[if_neg AdV];show CN (A4 ((A2 k).map _)) (A4 ((A2 k++[]).map _)) (A4 ((A2 k++[]).map _))=⟨A4 ((A2 k++[]++[]).map _),[],0⟩;rw[AbG,AbG];obtain⟨hm,-⟩:=FZ (a:=aW) (b:=bW) rfl rfl AdZ AdZ Pp;have hb:Aw (A4 ((A2 k).map (AQ aW bW)))=true:=IV (by simp[A2];omega) λt ht=>by
   obtain⟨s,hs,rfl⟩:=AbJ.1 ht;exact hm.may s (CG AdV hs)
  exact Tb hb hb
 ·split at hc
  ·rename_i a0;rw[if_pos a0];simp only[AaG,decide_eq_true_eq,AcK] at hc;obtain⟨⟨⟨s1,s2⟩,a1⟩,hl⟩:=hc;obtain⟨hm,-⟩:=FZ (a:=aW) (b:=bW) rfl rfl AdZ AdZ Pp;exact VM hm (CG AdV) (I6 (CG AdV) (G1 AdV)) (I6 (CG AdV) (G2 AdV)) (by simp[A2];omega) (by simp[A2,A6];omega) (by simp[A2,AA];omega) a1 (EJ s1) (EJ s2) hl
  ·rw[←ln];exact OR (a:=aW) (b:=bW) rfl rfl AdZ AdZ Pp (CG AdV) (I6 (CG AdV) (G1 AdV)) (I6 (CG AdV) (G2 AdV)) hc
set_option maxRecDepth 8000 in
set_option maxHeartbeats 8000000 in
theorem Mn(n a b:Nat)(w:World)(g:CT w)(hn:n<256)(ha:a<256)(hb:b<256):AN prog 12 [.int .u8 n,.int .u8 a,.int .u8 b] w (λr w'=>r=.bool true∧Ah w w'):=by
 obtain⟨hm,-⟩:=FZ (a:=aW) (b:=bW) rfl rfl AdZ AdZ Pp;refine Bq func12 ntmps12 ?_;refine Sw ?_;obtain⟨k,hk⟩:∃k:Nat,1+(n:Int) % 12=(k:Int):=⟨1+n % 12,by omega⟩;obtain⟨p,hp⟩:∃p:Nat,(a:Int) % 13=(p:Int):=⟨a % 13,by omega⟩;obtain⟨q,hq⟩:∃q:Nat,(b:Int) % 13=(q:Int):=⟨b % 13,by omega⟩;have am:k<13∧1≤k:=AdV
 have b7:p<13:=AdV
 have b8:q<13:=AdV
 rw[hk,hp,hq];clear hk hp hq;obtain⟨b9,am⟩:=am;have av:Bk w w.heap.size (Iy (.slice none 0 0) (.slice none 0 0) (.slice none 0 0)) (Iy [] [] []):=by rw[←GU,←GU];exact Bk.nil _ _
 refine CW.loop (ι:=Nat×Value) (λx w'=>x.1≤k∧Ah w w'∧Bk w' w.heap.size (Iy x.2 (.slice none 0 0) (.slice none 0 0)) (Iy ((A2 x.1).map (AQ aW bW)) [] [])) (λx=>[(7,.int .i64 k),(8,.int .i64 p),(9,.int .i64 q),(10,x.2),(11,.slice none 0 0),(12,.slice none 0 0),(13,.int .i64 x.1)]) (λx=>k - x.1) (0,.slice none 0 0) ⟨Acp _,Chg.refl _ _,av⟩ Dp ?_;rintro⟨i,v⟩ w1 ⟨hi,ak,hF⟩;dsimp only at hi hF;show CW _ _ _ _ _ [(7,.int .i64 (k:Int)),(8,.int .i64 (p:Int)),(9,.int .i64 (q:Int)),(10,v),(11,.slice none 0 0),(12,.slice none 0 0),(13,.int .i64 (i:Int))] _;have ba:=ak.size;refine Sw ?_;refine AB (λh1=>?_) λh1=>?_
 ·have h1:i<k:=by simp at h1;omega
  refine Sw ?_;refine Ar rfl rfl (AK (100+(i:Int)) AdV AdV _) ?_;rintro u w2 ⟨rfl,a8⟩;have aw:=a8.size;refine Sw ?_;refine CF λD w3 ax ag hD=>?_;have bl:=ag.size;refine Sw ?_;refine LW.push 0 ((hF.ext a8).ext ag) hD AdV Ae7 ?_;intro u w4 bb a5;rw[W7,W7] at a5;refine Sw ?_;refine QW.again (i+1,u) ⟨by show i+1≤k;omega,(ak.trans (a8.trans ag)).step bb λb hb=>(E.Own.lt (hF.own 0) hb).1,?_⟩ Dp (by show k - (i+1)<k - i;omega);show Bk _ _ _ (Iy ((A2 (i+1)).map _) [] []);rw[IU,CM _ _ _ (Sb aW bW AdV)];exact a5
 have h1:i=k:=by simp at h1;omega
 subst h1;have ay:=DW.texts (hF.own 0) Ae7 (C3 hm (CG AdV));refine Sw ?_;refine LW.pushAll 1 hF ay ba (by show 0+((A2 i).map _).length≤1000;rw[Abr,B4];omega) ?_;intro xv w2 ah a9;have a8:=ak.step ah λb hb=>(E.Own.lt (hF.own 1) hb).1;rw[ZD,ZD] at a9;replace a9:Bk w2 w.heap.size (Iy v xv (.slice none 0 0)) (Iy ((A2 i).map (AQ aW bW)) ((A2 i).map (AQ aW bW)) []):=a9;have aw:=a8.size;have az:=DW.texts (a9.own 0) Ae7 (C3 hm (CG AdV));refine Sw ?_;refine LW.pushAll 2 a9 az aw (by show 0+((A2 i).map _).length≤1000;rw[Abr,B4];omega) ?_;intro yv w3 b0 ai;have ag:=a8.step b0 λb hb=>(E.Own.lt (a9.own 2) hb).1;rw[ZE,ZE] at ai;replace ai:Bk w3 w.heap.size (Iy v xv yv) (Iy ((A2 i).map (AQ aW bW)) ((A2 i).map (AQ aW bW)) ((A2 i).map (AQ aW bW))):=ai;clear hF av a9 ay az ah b0 ak a8;refine Sw ?_;refine CW.loop (ι:=Nat×Value) (λx w'=>x.1≤p∧Ah w w'∧Bk w' w.heap.size (Iy v x.2 yv) (Iy ((A2 i).map (AQ aW bW)) ((A2 i++A6 x.1).map (AQ aW bW)) ((A2 i).map (AQ aW bW)))) (λx=>[(7,.int .i64 i),(8,.int .i64 p),(9,.int .i64 q),(10,v),(11,x.2),(12,yv),(14,.int .i64 x.1)]) (λx=>p - x.1) (0,xv) ⟨Acp _,ag,by rw[show A6 0=[] from rfl,AbG];exact ai⟩ Dp ?_;rintro⟨j,x⟩ w4 ⟨hj,al,a5⟩;dsimp only at hj a5;show CW _ _ _ _ _ [(7,.int .i64 (i:Int)),(8,.int .i64 (p:Int)),(9,.int .i64 (q:Int)),(10,v),(11,x),(12,yv),(14,.int .i64 (j:Int))] _;have bm:=al.size;refine Sw ?_;refine AB (λh2=>?_) λh2=>?_
 ·have h2:j<p:=by simp at h2;omega
  refine Sw ?_;refine Ar rfl rfl (AK (j:Int) AdV AdV _) ?_;rintro u w5 ⟨rfl,a6⟩;have bc:=a6.size;have bd:=Lib.itoa_length_le (j:Int) AdV AdV;refine Sw ?_;refine CF λD w6 ax a2 hD=>?_;have be:=a2.size;refine Sw ?_;refine LW.push 1 ((a5.ext a6).ext a2) hD AdV (by show((A2 i++A6 j).map _).length≤1000;rw[Abr,B6,B4,EV];omega) ?_;intro u w7 bf b1;rw[ZD,ZD] at b1;refine Sw ?_;refine QW.again (j+1,u) ⟨by show j+1≤p;omega,(al.trans (a6.trans a2)).step bf λb hb=>(E.Own.lt (a5.own 1) hb).1,?_⟩ Dp (by show p - (j+1)<p - j;omega);show Bk _ _ _ (Iy _ ((A2 i++A6 (j+1)).map _) _);rw[Nd,←List.append_assoc,CM _ _ _ (KU aW bW AdV)];exact b1
 have h2:j=p:=by simp at h2;omega
 subst h2;clear ai ag;refine Sw ?_;refine CW.loop (ι:=Nat×Value) (λy w'=>y.1≤q∧Ah w w'∧Bk w' w.heap.size (Iy v x y.2) (Iy ((A2 i).map (AQ aW bW)) ((A2 i++A6 j).map (AQ aW bW)) ((A2 i++AA y.1).map (AQ aW bW)))) (λy=>[(7,.int .i64 i),(8,.int .i64 j),(9,.int .i64 q),(10,v),(11,x),(12,y.2),(15,.int .i64 y.1)]) (λy=>q - y.1) (0,yv) ⟨Acp _,al,by rw[show AA 0=[] from rfl,AbG];exact a5⟩ Dp ?_;rintro⟨l,y⟩ w5 ⟨hl,a6,aa⟩;dsimp only at hl aa;show CW _ _ _ _ _ [(7,.int .i64 (i:Int)),(8,.int .i64 (j:Int)),(9,.int .i64 (q:Int)),(10,v),(11,x),(12,y),(15,.int .i64 (l:Int))] _;have bc:=a6.size;refine Sw ?_;refine AB (λh3=>?_) λh3=>?_
 ·have h3:l<q:=by simp at h3;omega
  refine Sw ?_;refine Ar rfl rfl (AK (l:Int) AdV AdV _) ?_;rintro u w6 ⟨rfl,a2⟩;have be:=a2.size;have bd:=Lib.itoa_length_le (l:Int) AdV AdV;refine Sw ?_;refine CF λD w7 ax ab hD=>?_;have bn:=ab.size;refine Sw ?_;refine LW.push 2 ((aa.ext a2).ext ab) hD AdV (by show((A2 i++AA l).map _).length≤1000;rw[Abr,B6,B4,Fg];omega) ?_;intro u w8 bg b2;rw[ZE,ZE] at b2;refine Sw ?_;refine QW.again (l+1,u) ⟨by show l+1≤q;omega,(a6.trans (a2.trans ab)).step bg λb hb=>(E.Own.lt (aa.own 2) hb).1,?_⟩ Dp (by show q - (l+1)<q - l;omega);show Bk _ _ _ (Iy _ _ ((A2 i++AA (l+1)).map _));rw[NC,←List.append_assoc,CM _ _ _ (KV aW bW l)];exact b2
 have h3:l=q:=by simp at h3;omega
 subst h3;have hO:=DW.texts (aa.own 0) Ae7 (C3 hm (CG AdV));have hX:=DW.texts (aa.own 1) (by show((A2 i++A6 j).map _).length≤1000;rw[Abr,B6,B4,EV];omega) (C3 hm (I6 (CG AdV) (G1 AdV)));have hY:=DW.texts (aa.own 2) (by show((A2 i++AA l).map _).length≤1000;rw[Abr,B6,B4,Fg];omega) (C3 hm (I6 (CG AdV) (G2 AdV)));have lm:=QU (k:=i) (p:=j) (q:=l) b9 am b7 b8;have ll:(A2 i++A6 j++AA l).length=i+j+l:=by rw[B6,B6,B4,EV,Fg]
 clear a5 aa al;refine Sw ?_;refine Ar rfl rfl (An _ _ w5 hO (by rw[show(Iy ((A2 i).map (AQ aW bW)) _ _) 0=(A2 i).map (AQ aW bW) from rfl,Abr,B4];omega)) ?_;rintro u w6 ⟨v1,rfl,b3,a2⟩;refine Sw ?_;refine Ar rfl rfl (An _ _ w6 (Ak.ext hX a2) (by rw[show(Iy _ ((A2 i++A6 j).map (AQ aW bW)) _) 1=(A2 i++A6 j).map (AQ aW bW) from rfl,Abr,B6,B4,EV];omega)) ?_;rintro u w7 ⟨v2,rfl,b4,ab⟩;refine Sw ?_;refine Ar rfl rfl (An _ _ w7 (Ak.ext (Ak.ext hY a2) ab) (by rw[show(Iy _ _ ((A2 i++AA l).map (AQ aW bW))) 2=(A2 i++AA l).map (AQ aW bW) from rfl,Abr,B6,B4,Fg];omega)) ?_;rintro u w8 ⟨v3,rfl,b5,an⟩;have ac:=ab.trans an;have ad:=(a6.trans a2).trans ac;have t:=E9 (A4 ((A2 i).map (AQ aW bW))) (A4 ((A2 i++A6 j).map (AQ aW bW))) (A4 ((A2 i++AA l).map (AQ aW bW))) v1 v2 v3 w8 (g.ext ad) (Aa.ext b3 ac) (Aa.ext b4 an) b5;rw[lm] at t;clear hO hX hY lm b3 b4 b5 a6 a2 ab an ac;refine Sw ?_;by_cases aj:24<i+j+l
 ·rw[if_pos aj] at t;refine Ar rfl rfl t ?_;rintro u w9 ⟨ov,cv,rfl,hO,hC,ao⟩;obtain⟨cp,cc,rfl⟩:=DZ hC;obtain⟨op,oc,rfl⟩:=Ab.slice hO;refine Sw ?_;refine Bt λM bh bi a3 hM=>?_;have ap:=a3.size;refine Sw ?_;refine AM λaq ae hM=>?_;replace hM:Blk aq M [.slice op 0 oc] 24:=hM;have a4:=(ad.trans ao).trans (a3.step ae AdY);refine Sw ?_;refine AB (λh4=>?_) λh4=>?_;rotate_left
  ·exfalso;simp at h4;omega
  clear h4;refine Sw ?_;refine Ar rfl rfl (I5 4 _) ?_;rintro u b6 ⟨rfl,a1⟩;replace hM:=hM.ext a1;refine Sw ?_;refine Ar rfl rfl (EQ _ (g.ext (a4.trans a1))) ?_;rintro u bj ⟨rfl,af⟩;refine Sw ?_;exact QW.body1 rfl rfl ⟨rfl,(a4.trans a1).trans af⟩
 ·rw[if_neg aj] at t;refine Ar rfl rfl t ?_;rintro u w9 ⟨ov,cv,rfl,hO,hC,ao⟩;obtain⟨cp,cc,rfl⟩:=DZ hC;obtain⟨op,oc,rfl⟩:=Ab.slice hO;refine Sw ?_;refine Bt λM bh bi a3 hM=>?_;have ap:=a3.size;refine Sw ?_;refine AM λaq ae hM=>?_;replace hM:Blk aq M [.slice op 1 oc] 24:=hM;have a7:=a3.step ae AdY;have a4:=(ad.trans ao).trans a7;have ar:=Aa.ext hO a7;refine Sw ?_;refine AB (λh4=>?_) λh4=>?_
  ·exfalso;simp at h4;omega
  clear h4;refine Sw ?_;refine Ar rfl rfl (I5 0 _) ?_;rintro u b6 ⟨rfl,a1⟩;replace hM:=hM.ext a1;have au:=Aa.ext ar a1;obtain⟨a0,q0,k0,rfl,-,-,hR,hc⟩:=Aa.at (i:=0) au rfl;have ah:=hc 2 _ rfl;have bk:(FH ((A2 i++A6 j++AA l).map (AQ aW bW))).rows.length=i+j+l:=by simp[FH,B4,EV,Fg];omega
  replace ah:b6.cell? ((a0.add (((0:Nat):Int).toNat*3)).add 2)=some (.slice q0 (i+j+l) k0):=by rw[←bk];exact ah
  refine Sw ?_;refine LW.know (t:=125) (c:=true) rfl Aei ?_;refine Sw ?_;refine Ar rfl rfl (EQ _ (g.ext (a4.trans a1))) ?_;rintro u bj ⟨rfl,af⟩;refine Sw ?_;exact QW.body1 rfl rfl ⟨rfl,(a4.trans a1).trans af⟩
end Go.Proofs.YtcjjcnecopnpcaaGreatDoor
