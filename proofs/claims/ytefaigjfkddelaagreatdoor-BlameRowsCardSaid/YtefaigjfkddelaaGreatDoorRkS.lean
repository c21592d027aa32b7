/-
  Joined by program out of the texts Law26R.
-/
import Derived.Test.YtefaigjfkddelaaGreatDoorRkP
namespace Go.Proofs.YtefaigjfkddelaaGreatDoor
open Go Go.E
theorem Mj {n:Int} (h0:0≤n) (h1:n≤1000000):(Lib.itoa n).length≤1000:=by have:=Lib.itoa_length_le n (by omega) (by omega);omega
theorem Ip {r:List (List UInt8)} (h:Mh r):r≠[]∧r.length≤1000000∧∀t∈r,t.length≤1000000:=by
 obtain ⟨h1,h2⟩:=h;exact ⟨λe=>by rw [e] at h1;simp at h1,by omega,λt ht=>by have:=PO (h2 t ht);omega⟩
theorem BT.none {lo:Nat} {w:World}:BT lo w (.slice none 0 0) [] (λ_=>0):=⟨⟨[],E.Ax.nil _ _ _ _,C8.nil⟩,by simp⟩
theorem BT.slice {lo:Nat} {w:World} {v:Value} {l:List (List (List UInt8))} {f:Nat→Nat} (h:BT lo w v l f):∃p c,v=.slice p l.length c:=by
 obtain ⟨xs,h1,-⟩:=h.own;exact h1.slice
set_option maxRecDepth 8000 in
set_option maxHeartbeats 16000000 in
theorem Nn (nn at':Nat) (w:World) (g:CU w) (hn:nn<256) (ha:at'<256):AA Tryz.prog 7 [.int .u8 nn,.int .u8 at'] w (λr w'=>r=.bool true∧Ae w w'):=by
 refine AL Tryz.func7 Tryz.ntmps7 ?_;refine Sw ?_;obtain ⟨k,hk⟩:∃k:Nat,2+(nn:Int) % 6=(k:Int):=⟨2+nn % 6,by omega⟩;have dq:k≤7∧2≤k:=by omega
 rw [hk];obtain ⟨i,hi⟩:∃i:Nat,(at':Int) % ((k:Int)+1)=(i:Int):=⟨((at':Int) % ((k:Int)+1)).toNat,(Int.toNat_of_nonneg (Int.emod_nonneg _ (by omega))).symm⟩;have dr:i≤k:=by have:=Int.emod_lt_of_pos (at':Int) (show (0:Int)<(k:Int)+1 by omega);omega
 rw [hi];refine BP λX w1 dt cm hX=>?_;refine Sw ?_;refine AM λw2 cn hX=>?_;replace hX:Blk w2 X [Aj [65],.int .i64 2,.slice none 0 0] 41:=hX;have al:Ae w w2:=cm.step cn (by simp;omega);have du:=hX.lt;refine Sw ?_;refine CW.loop (ι:=Nat×Value) (λx w'=>x.1≤k∧Ae w w'∧w2.heap.size≤w'.heap.size∧Blk w' X [Aj [65],.int .i64 2,x.2] 41∧∃f,BT w2.heap.size w' x.2 (HH x.1) f) (λx=>[(5,.int .i64 k),(6,.int .i64 i),(7,.pointer (some ⟨X,0,none⟩)),(8,.int .i64 x.1)]) (λx=>k - x.1) (0,.slice none 0 0) ⟨Nat.zero_le _,al,Nat.le_refl _,hX,_,BT.none⟩ BN ?_;rintro ⟨r,v⟩ w3 ⟨co,am,cp,b1,f,b4⟩;dsimp only at co b1 b4;show CW _ _ _ _ _ [(5,.int .i64 k),(6,.int .i64 i),(7,.pointer (some ⟨X,0,none⟩)),(8,.int .i64 (r:Int))] _;refine Sw ?_;refine Am (λh1=>?_) λh1=>?_
 ·have h1:r<k:=by simp at h1;omega
  obtain ⟨rp,rc,rfl⟩:=b4.slice;rw [Du] at *;obtain ⟨xs,b5,bm⟩:=b4.own;rw [Du] at b5;have cq:X∉Af (Value.slice rp r rc):=λh=>by have:=(b5.lt h).1;omega
  refine Sw ?_;refine CW.drawG (Ae w3) 12 (λw' h=>h) (by kernel_rfl) λwa cr=>?_;have ct:=Mj (n:=(r:Int)+1) (by omega) (by omega);refine Bp ?_;refine CX 4 λhS=>?_;refine Ap rfl rfl (Fs (100+(r:Int)) (by omega) (by omega) _) ?_;rintro u w4 ⟨rfl,bn⟩;have cu:=hS.trans bn;clear hS;apply LW.nil;refine QW.headed cu ?_;refine Bp ?_;refine CX 7 λhS=>?_;refine Ap rfl rfl (Fs ((r:Int)+1) (by omega) (by omega) _) ?_;rintro u w5 ⟨rfl,cv⟩;have cc:=hS.trans cv;clear hS;apply LW.nil;refine QW.headed cc ?_;refine Bp ?_;refine CX 10 λhS=>?_;refine Cl λC w6 bo cw hC=>?_;have cd:=hS.trans cw;clear hS;apply LW.nil;refine QW.headed cd ?_;refine CX 11 λhS=>?_;refine Cl λD w7 bp ae hD=>?_;have b2:=hS.trans ae;clear hS;apply LW.nil;refine QW.headed b2 ?_;refine GW.tail rfl (by kernel_rfl) (λhS=>?_);replace hC:Blk w6 C ((Wp r).map Aj++[]) 9:=hC;have dv:=cc.size;have b6:=cd.size;have cx:=b2.size;refine LW.append (lo:=w2.heap.size) (k:=r) rfl rfl rfl rfl rfl rfl (b5.ext b2) (by omega) hD rfl rfl rfl (by show (_+1)*25≤_;omega) rfl ?_;intro v8 w8 bg ce cy;obtain ⟨p8,c8,rfl⟩:=ce.slice;have cz:=MX (k:=r+1) (by omega) (Wp r) (by rw [MY];simp);obtain ⟨an,ao⟩:=Ip cz;obtain ⟨g',-,bq⟩:=BT.snoc (by rw [Du];omega) (by rw [Du];exact b5) bm b2 an ao (hC.ext ae) (by omega) cp bg cy (by rw [Du];exact ce);rw [←MY] at bq;have bh:=(b1.ext b2).chg bg cq;refine Sa ?_;refine BS λw9 a4 bh=>?_;replace bh:Blk w9 X [Aj [65],.int .i64 2,.slice p8 (r+1) c8] 41:=bh;have br:Ae w w8:=(am.trans b2).step bg (λb hb=>by have:=(b5.lt hb).1;have:=al.size;omega);have ap:=bq.chg a4 (λb hb hm=>by have:=(bq.lt hb).1;simp at hm;omega);have dw:=bg.size;have cf:=a4.size;refine Sw ?_;exact QW.again (r+1,.slice p8 (r+1) c8) ⟨by show r+1≤k;omega,br.step a4 (by simp;omega),by omega,bh,g',ap⟩ BN (by show k - (r+1)<k - r;omega)
 have h1:r=k:=by simp at h1;omega
 subst h1;refine Sw ?_;obtain ⟨rp,rc,rfl⟩:=b4.slice;rw [Du] at b1;have d0:=al.size;refine BP λZ w4 dx bn hZ=>?_;refine Sw ?_;refine AM λw5 d1 hZ=>?_;replace hZ:Blk w5 Z [Aj [65],.int .i64 2,.slice none 0 0] 41:=hZ;have a9:Ae w3 w5:=bn.step d1 (by simp;omega);have d2:=am.trans a9;have dy:=b1.ext a9;have dz:=hZ.lt;have d4:=a9.size;have d5:=b1.lt;refine Sw ?_;refine CW.loop (ι:=Nat×Value) (λx w'=>x.1≤r∧Ae w3 w'∧w5.heap.size≤w'.heap.size∧Blk w' Z [Aj [65],.int .i64 2,x.2] 41∧∃f,BT w5.heap.size w' x.2 (Dn i x.1) f) (λx=>[(5,.int .i64 r),(6,.int .i64 i),(7,.pointer (some ⟨X,0,none⟩)),(9,.pointer (some ⟨Z,0,none⟩)),(10,.int .i64 x.1)]) (λx=>r - x.1) (0,.slice none 0 0) ⟨Nat.zero_le _,a9,Nat.le_refl _,hZ,_,BT.none⟩ C2 ?_;rintro ⟨m,v⟩ w6 ⟨d6,a1,aq,b7,f6,ar⟩;dsimp only at d6 b7 ar;show CW _ _ _ _ _ [(5,.int .i64 r),(6,.int .i64 i),(7,.pointer (some ⟨X,0,none⟩)),(9,.pointer (some ⟨Z,0,none⟩)),(10,.int .i64 (m:Int))] _;refine Sw ?_;refine Am (λh2=>?_) λh2=>?_
 ·have h2:m<r:=by simp at h2;omega
  have b6:=a1.size;apply CW.skip;apply QW.then_n;apply CW.seq;apply CW.block;refine CW.seq_cut (ι:=Value) (λv w'=>Ae w3 w'∧w5.heap.size≤w'.heap.size∧Blk w' Z [Aj [65],.int .i64 2,v] 41∧∃f,BT w5.heap.size w' v (Dn i m++if m=i then [OQ] else []) f) (λ_=>[(5,.int .i64 r),(6,.int .i64 i),(7,.pointer (some ⟨X,0,none⟩)),(9,.pointer (some ⟨Z,0,none⟩)),(10,.int .i64 m)]) ?_ ?_
  ·refine Sw ?_;refine Am (λh3=>?_) λh3=>?_;rotate_left
   ·have h3:m≠i:=by simp at h3;omega
    refine Sw ?_;exact QW.head v ⟨a1,aq,b7,f6,by rw [if_neg h3,List.append_nil];exact ar⟩ C2
   have h3:m=i:=by simp at h3;omega
   subst h3;have d7:(Dn m m).length=m:=by rw [G3,if_neg (by omega)];omega
   obtain ⟨vp,vc,rfl⟩:=ar.slice;obtain ⟨xs,aa,au⟩:=ar.own;refine Sw ?_;refine Cl λC w7 bo ae hC=>?_;replace hC:Blk w7 C (OQ.map Aj++[]) 9:=hC;refine Sw ?_;refine Cl λD w8 bp a8 hD=>?_;refine Sw ?_;have a0:=ae.trans a8;have d8:=ae.size;have bs:=a0.size;refine LW.append (lo:=w5.heap.size) (k:=(Dn m m).length) rfl rfl rfl rfl rfl rfl (aa.ext a0) (by omega) hD rfl rfl rfl (by show (_+1)*25≤_;omega) rfl ?_;intro v9 w9 a4 b8 bt;obtain ⟨p9,c9,rfl⟩:=b8.slice;obtain ⟨an,ao⟩:=Ip Io;obtain ⟨g',-,ap⟩:=BT.snoc (by omega) aa au a0 an ao (hC.ext a8) (by omega) aq a4 bt b8;have b9:Z∉Af (Value.slice vp (Dn m m).length vc):=λh=>by have:=(aa.lt h).1;omega
   have ab:=(b7.ext a0).chg a4 b9;refine Sw ?_;refine BS λav a2 ab=>?_;replace ab:Blk av Z [Aj [65],.int .i64 2,.slice p9 ((Dn m m).length+1) c9] 41:=ab;have aw:Ae w3 w9:=(a1.trans a0).step a4 (λb hb=>by have:=(aa.lt hb).1;omega);have ax:=ap.chg a2 (λb hb hm=>by have:=(ap.lt hb).1;simp at hm;omega);have cf:=a4.size;have bu:=a2.size;refine Sw ?_;exact QW.head (.slice p9 ((Dn m m).length+1) c9) ⟨aw.step a2 (by simp;omega),by omega,ab,g',by rw [if_pos rfl];exact ax⟩ C2
  rintro v7 w7 ⟨a5,bv,bi,f7,b3⟩;show CW _ _ _ _ _ [(5,.int .i64 r),(6,.int .i64 i),(7,.pointer (some ⟨X,0,none⟩)),(9,.pointer (some ⟨Z,0,none⟩)),(10,.int .i64 (m:Int))] _;obtain ⟨t,ht⟩:∃t,t=Xa i m:=⟨_,rfl⟩;apply CW.seq;apply CW.region;refine Sl ?_;apply LW.nil;apply QW.then_n;refine CW.seq_cut (ι:=Unit) (λ_ w'=>w'=w7) (λ_=>[(5,.int .i64 r),(6,.int .i64 i),(7,.pointer (some ⟨X,0,none⟩)),(9,.pointer (some ⟨Z,0,none⟩)),(10,.int .i64 m),(11,.int .i64 t)]) ?_ ?_
  ·refine Sw ?_;refine Am (λh4=>?_) λh4=>?_
   ·have h4:i≤m:=by simp at h4;omega
    have cg:t=m+1:=by rw [ht,Xa,if_pos h4]
    refine Sw ?_;exact QW.head () rfl (Ad.cons rfl (Ad.cons rfl (Ad.cons rfl (Ad.cons rfl (Ad.cons rfl (Ad.cons (by show some (Value.int .i64 ((m:Int)+1))=some (Value.int .i64 ((t:Nat):Int));congr 2;omega) Ad.nil))))))
   ·have h4:¬i≤m:=by simp at h4;omega
    have cg:t=m:=by rw [ht,Xa,if_neg h4]
    refine Sw ?_;exact QW.head () rfl (Ad.cons rfl (Ad.cons rfl (Ad.cons rfl (Ad.cons rfl (Ad.cons rfl (Ad.cons (by rw [cg];rfl) Ad.nil))))))
  rintro ⟨⟩ w7 rfl;show CW _ _ _ _ _ [(5,.int .i64 r),(6,.int .i64 i),(7,.pointer (some ⟨X,0,none⟩)),(9,.pointer (some ⟨Z,0,none⟩)),(10,.int .i64 (m:Int)),(11,.int .i64 (t:Int))] _;have e0:t≤7:=by rw [ht,Xa];split<;>omega
  obtain ⟨L7,ci⟩:∃L,L=Dn i m++if m=i then [OQ] else []:=⟨_,rfl⟩;have hL:Dn i (m+1)=L7++[Q5 i m]:=by rw [IV,ci,List.append_assoc]
  rw [←ci] at b3;have e1:L7.length≤8:=by
   have:=congrArg List.length hL;rw [G3,List.length_append] at this;simp at this
   split at this<;>omega
  obtain ⟨vp,vc,rfl⟩:=b3.slice;obtain ⟨xs,bj,bw⟩:=b3.own;have b9:Z∉Af (Value.slice vp L7.length vc):=λh=>by have:=(bj.lt h).1;omega
  refine Sw ?_;refine CW.drawG (Ae w7) 12 (λw' h=>h) (by kernel_rfl) λwa cr=>?_;have ct:=Mj (n:=(t:Int)+1) (by omega) (by omega);refine Bp ?_;refine CX 4 λhS=>?_;refine Ap rfl rfl (Fs (100+(m:Int)) (by omega) (by omega) _) ?_;rintro u w8 ⟨rfl,a8⟩;have d9:=hS.trans a8;clear hS;apply LW.nil;refine QW.headed d9 ?_;refine Bp ?_;refine CX 7 λhS=>?_;refine Ap rfl rfl (Fs ((t:Int)+1) (by omega) (by omega) _) ?_;rintro u w9 ⟨rfl,bk⟩;have cj:=hS.trans bk;clear hS;apply LW.nil;refine QW.headed cj ?_;refine Bp ?_;refine CX 10 λhS=>?_;refine Cl λC av bo ay hC=>?_;have ba:=hS.trans ay;clear hS;apply LW.nil;refine QW.headed ba ?_;refine CX 11 λhS=>?_;refine Cl λD af bp a6 hD=>?_;have a3:=hS.trans a6;clear hS;apply LW.nil;refine QW.headed a3 ?_;refine GW.tail rfl (by kernel_rfl) (λhS=>?_);have da:Blk av C ((Q5 i m).map Aj++[]) 9:=by
   rw [Q5,←ht];exact hC
  have cf:=cj.size;have bu:=ba.size;have db:=a3.size;refine LW.append (lo:=w5.heap.size) (k:=L7.length) rfl rfl rfl rfl rfl rfl (bj.ext a3) (by omega) hD rfl rfl rfl (by show (_+1)*25≤_;omega) rfl ?_;intro v12 bx ac bb bz;obtain ⟨p12,c12,rfl⟩:=bb.slice;obtain ⟨an,ao⟩:=Ip (Kq (i:=i) (r:=m) (by omega));obtain ⟨g',-,az⟩:=BT.snoc (by omega) bj bw a3 an ao (da.ext a6) (by omega) bv ac bz bb;rw [←hL] at az;have ad:=(bi.ext a3).chg ac b9;refine Sa ?_;refine BS λc0 b0 ad=>?_;replace ad:Blk c0 Z [Aj [65],.int .i64 2,.slice p12 (L7.length+1) c12] 41:=ad;have bc:Ae w3 bx:=(a5.trans a3).step ac (λb hb=>by have:=(bj.lt hb).1;omega);have c1:=az.chg b0 (λb hb hm=>by have:=(az.lt hb).1;simp at hm;omega);have dc:=ac.size;have dd:=b0.size;refine Sw ?_;exact QW.again (m+1,.slice p12 (L7.length+1) c12) ⟨by show m+1≤r;omega,bc.step b0 (by simp;omega),by omega,ad,g',c1⟩ C2 (by show r - (m+1)<r - m;omega)
 have h2:m=r:=by simp at h2;omega
 subst h2;obtain ⟨L9,bl⟩:∃L,L=Dn i m++if m=i then [OQ] else []:=⟨_,rfl⟩;have e2:L9.length≤9:=by
  have:=G3 i m;rw [bl,List.length_append,this]
  split<;>split<;>simp<;>omega
 have de:∀x∈L9,Mh x:=λx hx=>by
  rw [bl,List.mem_append] at hx;rcases hx with hx | hx
  ·exact MZ m (by omega) x hx
  ·split at hx
   ·simp only [List.mem_singleton] at hx;rw [hx];exact Io
   ·simp at hx
 apply CW.exit
 (repeat (first | apply QW.then_exit | apply QW.blk_exit))
 apply QW.then_n;refine CW.seq_cut (ι:=Value) (λv w'=>Ae w3 w'∧Blk w' Z [Aj [65],.int .i64 2,v] 41∧∃f,BT w5.heap.size w' v L9 f) (λ_=>[(7,.pointer (some ⟨X,0,none⟩)),(9,.pointer (some ⟨Z,0,none⟩))]) ?_ ?_
 ·refine Sw ?_;refine Am (λh3=>?_) λh3=>?_;rotate_left
  ·have h3:m≠i:=by simp at h3;omega
   refine Sw ?_;exact QW.head v ⟨a1,b7,f6,by rw [bl,if_neg h3,List.append_nil];exact ar⟩ Fv
  have h3:m=i:=by simp at h3;omega
  subst h3;have d7:(Dn m m).length=m:=by rw [G3,if_neg (by omega)];omega
  have b6:=a1.size;obtain ⟨vp,vc,rfl⟩:=ar.slice;obtain ⟨xs,aa,au⟩:=ar.own;refine Sw ?_;refine Cl λC w7 bo ae hC=>?_;replace hC:Blk w7 C (OQ.map Aj++[]) 9:=hC;refine Sw ?_;refine Cl λD w8 bp a8 hD=>?_;refine Sw ?_;have a0:=ae.trans a8;have d8:=ae.size;have bs:=a0.size;refine LW.append (lo:=w5.heap.size) (k:=(Dn m m).length) rfl rfl rfl rfl rfl rfl (aa.ext a0) (by omega) hD rfl rfl rfl (by show (_+1)*25≤_;omega) rfl ?_;intro v9 w9 a4 b8 bt;obtain ⟨p9,c9,rfl⟩:=b8.slice;obtain ⟨an,ao⟩:=Ip Io;obtain ⟨g',-,ap⟩:=BT.snoc (by omega) aa au a0 an ao (hC.ext a8) (by omega) aq a4 bt b8;have b9:Z∉Af (Value.slice vp (Dn m m).length vc):=λh=>by have:=(aa.lt h).1;omega
  have ab:=(b7.ext a0).chg a4 b9;refine Sw ?_;refine BS λav a2 ab=>?_;replace ab:Blk av Z [Aj [65],.int .i64 2,.slice p9 ((Dn m m).length+1) c9] 41:=ab;have aw:Ae w3 w9:=(a1.trans a0).step a4 (λb hb=>by have:=(aa.lt hb).1;omega);have ax:=ap.chg a2 (λb hb hm=>by have:=(ap.lt hb).1;simp at hm;omega);refine Sw ?_;exact QW.head (.slice p9 ((Dn m m).length+1) c9) ⟨aw.step a2 (by simp;omega),ab,g',by rw [bl,if_pos rfl];exact ax⟩ Fv
 rintro v7 w7 ⟨a5,bi,f7,b3⟩;show CW _ _ _ _ _ [(7,.pointer (some ⟨X,0,none⟩)),(9,.pointer (some ⟨Z,0,none⟩))] _;have e3:=b1.ext a5;have df:=AJ.ext b4.list a5;have dg:=b3.list;obtain ⟨zp,zc,rfl⟩:=b3.slice;refine Sw ?_;refine Cl λB1 w8 dh a8 c2=>?_;replace c2:Blk w8 B1 [Aj [65],.int .i64 2,.slice rp m rc] 41:=c2;refine Sw ?_;refine Cl λPB w9 di bk c3=>?_;replace c3:Blk w9 PB [Aj [97]] 9:=c3;replace bi:=(bi.ext a8).ext bk;refine Sw ?_;refine Cl λB2 av dj ay c4=>?_;replace c4:Blk av B2 [Aj [65],.int .i64 2,.slice zp L9.length zc] 41:=c4;refine Sw ?_;refine Cl λLB af dk a6 c5=>?_;replace c5:Blk af LB ([[Aj [97],.slice none 0 0,.slice (some ⟨B1,0,none⟩) 1 1,Aj []],[Aj [98],.slice (some ⟨PB,0,none⟩) 1 1,.slice (some ⟨B2,0,none⟩) 1 1,Aj []]].flatten++[]) 31:=c5;have ag:=ay.trans a6;have ah:=bk.trans ag;have a7:=a8.trans ah;have ai:=am.trans (a5.trans a7);have e4:(HH m).length=m:=Du m;have bd:∀(B:Nat) (rows:List (List (List UInt8))) (v:Value),Blk af B [Aj [65],.int .i64 2,v] 41→Dx af v rows→Cs af (.slice (some ⟨B,0,none⟩) 1 1) [⟨[65],2,rows⟩]:=λB rows v hb hr=>⟨by simp,.inr ⟨_,1,rfl,λ_=>trivial,λi x hi=>by
  match i,hi with
  | 0,hi=>
   obtain rfl:=Option.some.inj hi;exact ⟨_,rfl,⟨v,rfl,by show (1:Nat)≤_;omega,hr⟩,Ew hb⟩⟩⟩
 have dl:=bd B1 (HH m) _ (c2.ext ah) (by have h:=AJ.ext df a7;rwa [Du] at h);have dm:=bd B2 L9 _ (c4.ext a6) (AJ.ext dg a7);have dn:Bu [⟨[65],2,HH m⟩]=true:=Nf (by rw [Du];omega) (MX (by omega));have dp:Bu [⟨[65],2,L9⟩]=true:=Nf (by omega) de;obtain ⟨l,hl⟩:∃l:AC,l=[⟨[97],[],[⟨[65],2,HH m⟩],[]⟩,⟨[98],[[97]],[⟨[65],2,L9⟩],[]⟩]:=⟨_,rfl⟩;have hP:Da af (.slice (some ⟨LB,0,none⟩) 2 2) l:=by
  rw [hl];refine ⟨by simp,.inr ⟨⟨LB,0,none⟩,2,rfl,λi x hi=>?_⟩⟩;have aj:∀(i:Nat) (cs:List Value),([[Aj [97],.slice none 0 0,.slice (some ⟨B1,0,none⟩) 1 1,Aj []],[Aj [98],.slice (some ⟨PB,0,none⟩) 1 1,.slice (some ⟨B2,0,none⟩) 1 1,Aj []]]:List (List Value))[i]?=some cs→∀j u,cs[j]?=some u→af.cell? (((⟨LB,0,none⟩:Addr).add (i*4)).add j)=some u:=λi cs hc j u hj=>by
   have h4:∀ds∈([[Aj [97],.slice none 0 0,.slice (some ⟨B1,0,none⟩) 1 1,Aj []],[Aj [98],.slice (some ⟨PB,0,none⟩) 1 1,.slice (some ⟨B2,0,none⟩) 1 1,Aj []]]:List (List Value)),ds.length=4:=by simp
   have ck:=(List.getElem?_eq_some_iff.1 hj).1;rw [h4 cs (List.mem_of_getElem? hc)] at ck;rw [A0,A0];refine c5.cell ?_;rw [Nat.zero_add,Hy h4 hc ck];exact hj
  match i,hi with
  | 0,hi=>
   obtain rfl:=Option.some.inj hi
   exact ⟨_,rfl,⟨_,_,rfl,⟨by simp,.inl ⟨rfl,rfl⟩⟩,by simp,dl,dn⟩,aj 0 _ rfl⟩
  | 1,hi=>
   obtain rfl:=Option.some.inj hi;exact ⟨_,rfl,⟨_,_,rfl,⟨by simp,.inr ⟨_,1,rfl,λi x hi=>by
    match i,hi with
    | 0,hi=>
     obtain rfl:=Option.some.inj hi;exact ⟨_,rfl,⟨rfl,by simp⟩,Ew (c3.ext ag)⟩⟩⟩,by simp,dm,dp⟩,aj 1 _ rfl⟩
 have cl:GK l=true:=by rw [hl];rfl
 have e5:l.length=2:=by rw [hl];rfl
 refine Sw ?_;refine Ap rfl rfl (LL l _ [98] af (g.ext ai) hP (λp n c e=>by obtain ⟨-,rfl,rfl⟩:=Value.slice.inj e;exact Nat.le_refl _) cl (by omega)) ?_;rintro v bx ⟨rv,f,c6,be⟩;refine Sw ?_;refine Ap rfl rfl (R7 l _ [98] bx (hP.ext be) cl (by omega)) ?_;rintro u c0 ⟨rv',f',c7,bf⟩;refine Sw ?_;refine Ap rfl rfl (Oz (GE l [98]) (GE l [98]) _ _ c0 (c6.ext bf).list c7.list) ?_;rintro u e6 ⟨rfl,ca⟩;have ak:=ai.trans ((be.trans bf).trans ca);rw [decide_eq_true (rfl:GE l [98]=GE l [98])];refine Sw ?_;refine Ap rfl rfl (Po _ (g.ext ak)) ?_;rintro v e7 ⟨rfl,cb⟩;refine Sw ?_;exact QW.body1 Tryz.results7 rfl ⟨rfl,ak.trans cb⟩
end Go.Proofs.YtefaigjfkddelaaGreatDoor
