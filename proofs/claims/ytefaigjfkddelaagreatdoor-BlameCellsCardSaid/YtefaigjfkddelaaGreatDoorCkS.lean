/-
  Joined by program out of the texts Law26R Law26C.
-/
import Derived.Test.YtefaigjfkddelaaGreatDoorCkP
import Derived.Test.YtefaigjfkddelaaGreatDoorCkQ
namespace Go.Proofs.YtefaigjfkddelaaGreatDoor
open Go Go.E
theorem OP {n:Int} (h0:0≤n) (h1:n≤1000000):(Lib.itoa n).length≤1000:=by have:=Lib.itoa_length_le n (by omega) (by omega);omega
theorem RF {r:List (List UInt8)} (h:SK r):r≠[]∧r.length≤1000000∧∀t∈r,t.length≤1000000:=by
 obtain ⟨h1,h2⟩:=h;exact ⟨λe=>by rw [e] at h1;simp at h1,by omega,λt ht=>by have:=NA (h2 t ht);omega⟩
theorem BB.none {lo:Nat} {w:World}:BB lo w (.slice none 0 0) [] (λ_=>0):=⟨⟨[],E.Ay.nil _ _ _ _,BN.nil⟩,by simp⟩
theorem BB.slice {lo:Nat} {w:World} {v:Value} {l:List (List (List UInt8))} {f:Nat→Nat} (h:BB lo w v l f):∃p c,v=.slice p l.length c:=by
 obtain ⟨xs,h1,-⟩:=h.own;exact h1.slice
def Wc (zs:List Int):List Nat:=zs.map λz=>(z % 5).toNat
theorem Vo (zs:List Int):∀k∈Wc zs,k<5:=λk hk=>by
 obtain ⟨z,-,rfl⟩:=List.mem_map.1 hk;omega
theorem Vn {zs:List Int} {i:Nat} {z:Int} (h:zs[i]?=some z):(Wc zs).getD i 0=(z % 5).toNat:=by rw [List.getD_eq_getElem?_getD,Wc,List.getElem?_map,h];rfl
set_option maxRecDepth 8000 in
set_option maxHeartbeats 16000000 in
theorem J2 (zs:List Int) (av:Value) (w:World) (g:Cm w) (hA:V8 .u8 w av zs) (hz:∀z∈zs,0≤z∧z≤255):AL Tryz.prog 6 [av] w (λr w'=>r=.bool true∧Ag w w'):=by
 obtain ⟨ap,ac,rfl⟩:=hA.slice;have ej:=hA.1;refine Br Tryz.func6 Tryz.ntmps6 ?_;refine Sw ?_;refine A4 (λh0=>?_) λh0=>?_
 ·refine Sw ?_;refine AE rfl rfl (IE _ g) ?_;rintro v w1 ⟨rfl,hx⟩;refine Sw ?_;exact QW.body1 Tryz.results6 rfl ⟨rfl,hx⟩
 have h0:zs.length≤8:=by have:¬(8:Int)<(zs.length:Int):=of_decide_eq_false h0;omega
 refine Sw ?_;refine D4 λX w1 ek d6 hX=>?_;refine Sw ?_;refine Cj λw2 d7 hX=>?_;replace hX:Blk w2 X [Ap [65],.int .i64 2,.slice none 0 0] 41:=hX;have ad:Ag w w2:=d6.step d7 (by simp;omega);have el:=hX.lt;refine Sw ?_;refine CW.loop (ι:=Nat×Value) (λx w'=>x.1≤5∧Ag w w'∧w2.heap.size≤w'.heap.size∧Blk w' X [Ap [65],.int .i64 2,x.2] 41∧∃f,BB w2.heap.size w' x.2 (Fj x.1) f) (λx=>[(0,.slice ap zs.length ac),(3,.pointer (some ⟨X,0,none⟩)),(4,.int .i64 x.1)]) (λx=>5 - x.1) (0,.slice none 0 0) ⟨Nat.zero_le _,ad,Nat.le_refl _,hX,_,BB.none⟩ C0 ?_;rintro ⟨r,v⟩ w3 ⟨d8,ae,d9,bf,f,a7⟩;dsimp only at d8 bf a7;show CW _ _ _ _ _ [(0,.slice ap zs.length ac),(3,.pointer (some ⟨X,0,none⟩)),(4,.int .i64 (r:Int))] _;refine Sw ?_;refine A4 (λh1=>?_) λh1=>?_
 ·have h1:r<5:=by simp at h1;omega
  have em:=RG r;obtain ⟨rp,rc,rfl⟩:=a7.slice;obtain ⟨xs,bg,bn⟩:=a7.own;have da:X∉Ad (Value.slice rp (Fj r).length rc):=λh=>by have:=(bg.lt h).1;omega
  refine Sw ?_;refine CW.drawG (Ag w3) 7 (λw' h=>h) (by kernel_rfl) λwa bh=>?_;refine Cy ?_;refine Fu 4 λhS=>?_;refine AE rfl rfl (GR (100+(r:Int)) (by omega) (by omega) _) ?_;rintro u w4 ⟨rfl,bi⟩;have cj:=hS.trans bi;clear hS;apply LW.nil;refine QW.headed cj ?_;refine Fu 5 λhS=>?_;refine DG λC w6 en ar hC=>?_;have ck:=hS.trans ar;clear hS;apply LW.nil;refine QW.headed ck ?_;refine Fu 6 λhS=>?_;refine DG λD w7 db cl hD=>?_;have au:=hS.trans cl;clear hS;apply LW.nil;refine QW.headed au ?_;refine GW.tail rfl (by kernel_rfl) (λhS=>?_);replace hC:Blk w6 C ((Ce r [48]).map Ap++[]) 9:=hC;have eo:=cj.size;have dc:=ck.size;have dd:=au.size;refine LW.append (lo:=w2.heap.size) (k:=(Fj r).length) rfl rfl rfl rfl rfl rfl (bg.ext au) (by omega) hD rfl rfl rfl (by show (_+1)*25≤_;omega) rfl ?_;intro v8 w8 bj cn de;obtain ⟨p8,c8,rfl⟩:=cn.slice;obtain ⟨df,bo⟩:=RF ((LP (r:=r) (t:=[48]) (by
   have h:=HM 0 (by omega) (by omega)
   rwa [show Lib.itoa 0=[48] by decide +kernel] at h)).resolve_right (by omega))
  obtain ⟨g',-,af⟩:=BB.snoc (by omega) bg bn au df bo (hC.ext cl) (by omega) d9 bj de cn;rw [←Pq] at af;have bk:=(bf.ext au).chg bj da;refine Sa ?_;refine CH λw9 bq bk=>?_;replace bk:Blk w9 X [Ap [65],.int .i64 2,.slice p8 ((Fj r).length+1) c8] 41:=bk;have br:Ag w w8:=(ae.trans au).step bj (λb hb=>by have:=(bg.lt hb).1;have:=ad.size;omega);have dg:=af.chg bq (λb hb hm=>by have:=(af.lt hb).1;simp at hm;omega);have ep:=bj.size;have er:=bq.size;refine Sw ?_;exact QW.again (r+1,.slice p8 ((Fj r).length+1) c8) ⟨by show r+1≤5;omega,br.step bq (by simp;omega),by omega,bk,g',dg⟩ C0 (by show 5 - (r+1)<5 - r;omega)
 have h1:r=5:=by simp at h1;omega
 subst h1;obtain ⟨rp,rc,rfl⟩:=a7.slice;replace bf:Blk w3 X [Ap [65],.int .i64 2,.slice rp 5 rc] 41:=bf;replace a7:BB w2.heap.size w3 (.slice rp 5 rc) (Fj 5) f:=a7;have dh:=ad.size;refine Sw ?_;refine DG λB1 w4 di bi bl=>?_;replace bl:Blk w4 B1 [Ap [65],.int .i64 2,.slice rp 5 rc] 41:=bl;refine Sw ?_;refine DG λLB w5 dj bs bm=>?_;replace bm:Blk w5 LB [Ap [99],.slice none 0 0,.slice (some ⟨B1,0,none⟩) 1 1,Ap []] 31:=bm;refine Sw ?_;refine DG λW w6 es ar hW=>?_;replace hW:Blk w6 W ((List.replicate 5 [99]).map Ap) 9:=hW;have bt:=bi.trans bs;have ag:=bt.trans ar;have dk:=ae.trans ag;have dl:=bi.size;have dm:=bs.size;have dn:=ar.size;have dp:=bl.lt;have dq:=bm.lt;have et:=hW.lt;obtain ⟨ks,co⟩:∃ks,ks=Wc zs:=⟨_,rfl⟩;have bu:∀k∈ks,k<5:=by rw [co];exact Vo zs
 have dr:DJ [W] w3.heap.size w6 (.slice (some ⟨LB,0,none⟩) 1 1) (Dz ks 0):=by
  refine ⟨[[Ap [99],.slice none 0 0,.slice (some ⟨B1,0,none⟩) 1 1,Ap []]],rfl,by simp,⟨rfl,.inr ⟨LB,1,[],rfl,bm.ext ar,Nat.le_refl _,rfl,by omega⟩⟩,λi x cs hi hc=>?_⟩
  match i,hi,hc with
  | 0,hi,hc=>
   obtain rfl:=Option.some.inj hi;obtain rfl:=Option.some.inj hc;intro w' x;have ay:∀b,b<LB→b∉[W]++Ad (Value.slice (some ⟨LB,0,none⟩) 1 1):=λb hb hm=>by
    simp [Ad] at hm;omega
   have bv:=(a7.ext ag).chg x (λb hb=>ay b (by have:=(a7.lt hb).2;omega));have ds:=(bl.ext (bs.trans ar)).chg x (ay B1 (by omega));refine ⟨.slice none 0 0,_,rfl,⟨by show (0:Nat)≤_;omega,.inl ⟨rfl,rfl⟩⟩,by simp [Jg,Ns],?_,PF ks (Nat.zero_le _)⟩;rw [show (Jg ks 0).book=[⟨[65],2,Fj 5⟩] from Og ks];exact ⟨by simp,.inr ⟨_,1,rfl,λ_=>trivial,λi x hi=>by
    match i,hi with
    | 0,hi=>
     obtain rfl:=Option.some.inj hi;exact ⟨_,rfl,⟨_,rfl,by show (1:Nat)≤_;omega,bv.list⟩,D8 ds⟩⟩⟩
 refine Sw ?_;refine CW.loop (ι:=Nat×Option Addr×Nat) (λx w'=>x.1≤zs.length∧Ag w3 w'∧Blk w' W ((Jm ks x.1).2.map Ap) 9∧w6.heap.size≤w'.heap.size∧DJ [W] w3.heap.size w' (.slice x.2.1 (x.1+1) x.2.2) (Dz ks x.1)∧W∉Ad (.slice x.2.1 (x.1+1) x.2.2)) (λx=>[(0,.slice ap zs.length ac),(5,.slice x.2.1 ((x.1+1:Nat):Int).toNat x.2.2),(6,.slice (some ⟨W,0,none⟩) 5 5),(7,.int .i64 x.1)]) (λx=>zs.length - x.1) (0,some ⟨LB,0,none⟩,1) ⟨Nat.zero_le _,ag,hW,Nat.le_refl _,dr,by simp [Ad];omega⟩ BU ?_;rintro ⟨n,lp,lc⟩ w7 ⟨dt,ah,aw,du,ax,bw⟩;dsimp only at dt aw ax bw;show CW _ _ _ _ _ [(0,.slice ap zs.length ac),(5,.slice lp (n+1) lc),(6,.slice (some ⟨W,0,none⟩) 5 5),(7,.int .i64 (n:Int))] _;have ai:=ae.trans ah;have cp:=ax.list (by rw [I4];omega);have bx:=I4 ks n;have bz:CB w7 (.slice lp (Dz ks n).length lc) (Dz ks n):=by rw [bx];exact cp
 obtain ⟨la,q,qn,bp,bc,eqa,hq,dv,dw,eu,a0⟩:=CB.at bz (K0 ks (Nat.le_refl n));subst eqa;obtain ⟨ts,c0⟩:∃ts,ts=(Jm ks n).1:=⟨_,rfl⟩;obtain ⟨dx,cq⟩:=Jz ks n;refine Sw ?_;refine A4 (λh2=>?_) λh2=>?_
 ·have h2:n<zs.length:=by simp at h2;omega
  obtain ⟨z,az⟩:∃z,zs[n]?=some z:=⟨_,List.getElem?_eq_getElem h2⟩;have ew:=hz z (List.mem_of_getElem? az);obtain ⟨k,hk⟩:∃k:Nat,z % 5=(k:Int):=⟨(z % 5).toNat,by omega⟩;have cr:k<5:=by omega
  have ct:ks.getD n 0=k:=by rw [co,Vn az];omega
  obtain ⟨aa,eqa,cu⟩:∃a,ap=some a∧w.cell? (a.add n)=some (.int .u8 z):=by
   obtain ⟨-,⟨e,e2⟩ | ⟨a,cap,e,h⟩⟩:=hA
   ·rw [e2] at az;simp at az
   ·obtain ⟨rfl,-,-⟩:=Value.slice.inj e;exact ⟨a,rfl,h n z az⟩
  subst eqa;have ex:∀j u,([.slice bp 1 bc]:List Value)[j]?=some u→w7.cell? (((la.add (((n:Nat):Int).toNat*4)).add 2).add j)=some u:=λj u hj=>by
   match j,hj with
   | 0,hj=>exact a0 2 u hj
  have c6:=a0 0 _ rfl;refine Sw ?_;refine AE rfl rfl (Mg (V1 ks n) _ w7 dv) ?_;rintro v w8 ⟨u,rv,ff,rfl,af,b0⟩;obtain ⟨up,uc,rfl⟩:=af.slice;refine Sw ?_;refine D4 λT w9 ey a4 hT=>?_;refine Sw ?_;refine Cj λaj c7 hT=>?_;replace hT:Blk aj T [.slice up 1 uc] 29:=hT;have a2:Ag w8 aj:=a4.step c7 (by simp;omega);have a8:=b0.trans a2;have b1:=ai.trans a8;have b2:=af.ext a2;have dy:=b0.size;have cv:=a2.size;have ez:=hT.lt;have ak:(Am ts).rows[k]?=some (Ce k (ts.getD k [])):=by
   show ((List.range 5).map λr=>Ce r (ts.getD r []))[k]?=_;rw [List.getElem?_map,List.getElem?_range cr];rfl
  obtain ⟨B,cb,M,cm,cx,e1,e2,dz,bo,e0,sp,e3⟩:=b2.at (i:=0) (row:=k) (s:=Am ts) (by rw [c0];rfl) ak (by simp [Ce]);obtain ⟨rfl,-,-⟩:=Value.slice.inj e1;have f0:aj.cell? (aa.add (((n:Nat):Int).toNat*1))=some (.int .u8 z):=by
   rw [show ((n:Nat):Int).toNat*1=n by omega];exact Aw b1 cu
  have cw:aj.cell? (((⟨B,0,none⟩:Addr).add ((0:Int).toNat*3)).add 2)=some (.slice (some ⟨M,0,none⟩) 5 cm):=by
   have h:=dz 2 _ rfl;rw [e2,E3] at h;exact h
  have f1:aj.cell? ((⟨M,0,none⟩:Addr).add (((k:Nat):Int).toNat*1))=some (.slice (some ⟨ff 0 k,0,none⟩) 2 cx):=bo;refine Sw ?_;rw [hk];refine CW.drawG (Ag aj) 12 (λw' h=>h) (by kernel_rfl) λwa bh=>?_;refine Cy ?_;refine Fu 10 λhS=>?_;refine AE rfl rfl (GR (200+(n:Int)) (by omega) (by omega) _) ?_;rintro u f2 ⟨rfl,c9⟩;have ca:=hS.trans c9;clear hS;apply LW.nil;refine QW.headed ca ?_;refine Cy ?_;refine GW.tail rfl (by kernel_rfl) (λhS=>?_);refine LW.store (i:=1) (by show some (Value.pointer (some (Addr.add ⟨ff 0 k,0,none⟩ ((1:Int).toNat*1))))=_;rw [Ao];rfl) rfl rfl (e3.ext hS) (Nat.ble_eq_true_of_le (by show 1+1≤_;simp [Ce])) rfl rfl λcy al am=>?_;replace am:Blk cy (ff 0 k) (((Ce k (ts.getD k [])).set 1 (RZ n)).map Ap++sp) 9:=am;obtain ⟨f3,f4,-,-⟩:=KO n (by omega);have a5:=(b2.ext hS).set (i:=0) (row:=k) (col:=1) (t:=RZ n) (s:=Am ts) (by rw [c0];rfl) ak (by simp [Ce]) (by omega) al am;have b3:FJ (V1 ks n) 0 k 1 (RZ n)=V1 ks (n+1):=by
   show FJ [Am (Jm ks n).1] 0 k 1 (RZ n)=[Am ((Jm ks n).1.set (ks.getD n 0) (RZ n))];rw [Pv _ dx cr,ct]
  rw [b3] at a5;have f5:=hS.size;have b4:Ag w7 cy:=(a8.trans hS).step al (by simp;omega);have an:=(hT.ext hS).chg al (by
   have hu:DT (rv 0) (Am ts).rows (ff 0) (ff 0 k):=.inr ⟨k,_,ak,by simp [Ce],rfl⟩;have h:=(af.sub.rows 0 (Am ts) (by show 0<1;omega) (by rw [c0];rfl)).lt hu;simp;omega)
  have f6:=OP (n:=(n:Int)) (by omega) (by omega);refine Sw ?_;refine AE rfl rfl (GR (n:Int) (by omega) (by omega) _) ?_;rintro u cz ⟨rfl,ao⟩;refine Sw ?_;have a1:=b4.trans ao;have d0:=a1.size;replace an:=an.ext ao;replace a5:=a5.ext ao;have f7:∀j u,([.slice (some ⟨B,0,none⟩) 1 uc]:List Value)[j]?=some u→cz.cell? ((⟨T,0,none⟩:Addr).add j)=some u:=EX (i:=0) an rfl;have e4:=Aw a1 c6;refine CW.drawG (Ag cz) 11 (λw' h=>h) (by kernel_rfl) λwa bh=>?_;refine Cy ?_;refine Fu 7 λhS=>?_;refine DG λPB f8 e5 b5 d1=>?_;have cc:=hS.trans b5;clear hS;apply LW.nil;refine QW.headed cc ?_;refine Cy ?_;refine Fu 10 λhS=>?_;refine DG λD e6 db b6 hD=>?_;have cd:=hS.trans b6;clear hS;apply LW.nil;refine QW.headed cd ?_;refine GW.tail rfl (by kernel_rfl) (λhS=>?_);obtain ⟨css,g1,g2,g3,g4⟩:=ax.ext (a1.trans hS);have a3:=a1.trans hS;have cu:=bh.size;have d2:=hS.size;have e7:=b5.size;have e8:=d1.lt;have b7:Dz ks (n+1)=Dz ks n++[Jg ks (n+1)]:=K1 ks n;have d4:∀b,w7.heap.size≤b→b∉[W]++Ad (Value.slice (some la) (n+1) lc):=λb hb hm=>by
   rcases List.mem_append.1 hm with hm | hm
   ·simp at hm;have:=aw.lt;omega
   ·have:=(ax.lt hm).2;omega
  have e9:∀b,b∈[W]++Ad (Value.slice (some la) (n+1) lc)→b<w7.heap.size:=λb hm=>Nat.lt_of_not_le λh=>d4 b h hm;have b8:Je ([W]++Ad (Value.slice (some la) (n+1) lc)) e6 λw'=>H8 w' [Ap (Ns (n+1)),.slice (some ⟨PB,0,none⟩) 1 1,.slice (some ⟨B,0,none⟩) 1 uc,Ap []] (Jg ks (n+1)):=λw' x=>by
   have ce:=(d1.ext b6).chg x (d4 PB (by omega));have bv:=(a5.ext hS).old x e9;refine ⟨_,_,rfl,⟨by show (1:Nat)≤_;omega,.inr ⟨_,1,rfl,λi x hi=>by
    match i,hi with
    | 0,hi=>
     obtain rfl:=Option.some.inj hi;exact ⟨_,rfl,⟨rfl,by have:=L9 n (by omega);show (Ns n).length≤_;omega⟩,D8 ce⟩⟩⟩,by have:=L9 (n+1) (by omega);show (Ns (n+1)).length≤_;omega,bv.list,PF ks (by omega)⟩
  refine LW.append (lo:=w3.heap.size) (k:=n+1) rfl rfl rfl rfl rfl rfl (by rw [bx] at g3;exact g3) (by have:=ah.size;omega) hD rfl rfl rfl (by show (_+1)*81≤_;omega) rfl ?_;intro v16 ea a6 b9 ba;have bb:=DJ.snoc (c:=Jg ks (n+1)) (cs:=[Ap (Ns (n+1)),.slice (some ⟨PB,0,none⟩) 1 1,.slice (some ⟨B,0,none⟩) 1 uc,Ap []]) g1 g2 g4 (Chg.refl _ _) rfl b8 a6 ba (by rw [bx];exact b9);rw [←b7] at bb;obtain ⟨p16,c16,rfl⟩:=b9.slice;have cf:=(aw.ext a3).chg a6 bw;have bd:Ag w3 ea:=(ah.trans a3).step a6 (λb hb=>(ax.lt hb).1);have eb:=a6.size;have d5:=a3.size;refine Sw ?_;refine LW.store (i:=k) (by show some (Value.pointer (some (Addr.add ⟨W,0,none⟩ (((k:Nat):Int).toNat*1))))=_;rw [Ao];congr;omega) rfl rfl cf (Nat.ble_eq_true_of_le (by rw [List.length_map,cq];omega)) rfl rfl λec aq cg=>?_;have a9:W∉Ad (Value.slice p16 (n+1+1) c16):=λh=>by
   rcases ba W h with h | h
   ·exact bw h
   ·have:=aw.lt;omega
  have ed:Blk ec W ((Jm ks (n+1)).2.map Ap) 9:=by
   rw [show (Jm ks (n+1)).2=(Jm ks n).2.set k (Ns (n+1)) by show (Jm ks n).2.set (ks.getD n 0) (Ns (n+1))=_;rw [ct],List.map_set];exact cg
  have ee:=aq.size;refine Sw ?_;exact QW.again (n+1,p16,c16) ⟨by show n+1≤_;omega,bd.step aq (by simp;omega),ed,by omega,bb.chg aq (λb hb=>hb) (by simp;exact a9),a9⟩ BU (by show zs.length - (n+1)<zs.length - n;omega)
 have h2:n=zs.length:=by simp at h2;omega
 subst h2;obtain ⟨ef,eg⟩:=IU ks bu zs.length h0;have eh:w7.cell? ((la.add ((((zs.length+1:Nat):Int) - 1).toNat*4)).add 0)=some (Ap (Ns zs.length)):=by
  rw [show (((zs.length+1:Nat):Int) - 1).toNat=((zs.length:Nat):Int).toNat by omega];exact a0 0 _ rfl
 refine Sw ?_;refine AE rfl rfl (JC (Dz ks zs.length) _ (Ns zs.length) w7 (g.ext ai) cp ax.len ef (by omega)) ?_;rintro v w8 ⟨rv,ff,hT,b0⟩;rw [eg] at hT;obtain ⟨ws,ei⟩:∃ws,ws=(Jm ks zs.length).2:=⟨_,rfl⟩;rw [←ei] at hT cq aw;have be:=ai.trans b0;have ab:∀r,r<5→((List.range 5).map λr=>([[99],ws.getD r []]:List (List UInt8)))[r]?=some [[99],ws.getD r []]:=λr hr=>by rw [List.getElem?_map,List.getElem?_range hr];rfl
 obtain ⟨B,cb,M,cm,cx,hv,k1,-,-,-⟩:=hT.at (i:=0) (row:=0) rfl (ab 0 (by omega)) (by simp);have hv:v=.slice (some ⟨B,0,none⟩) 1 cb:=hv;subst hv;have k1':w8.cell? ((⟨B,0,none⟩:Addr).add ((0:Int).toNat*1))=some (.slice (some ⟨M,0,none⟩) 5 cm):=by
  have h:=k1;rw [List.length_map,List.length_range] at h;exact h
 refine Sw ?_;refine CW.loop (ι:=Nat) (λr w'=>r≤5∧Ag w8 w') (λr=>[(6,.slice (some ⟨W,0,none⟩) 5 5),(11,.slice (some ⟨B,0,none⟩) 1 cb),(12,.int .i64 r)]) (λr=>5 - r) 0 ⟨Nat.zero_le _,Chg.refl _ _⟩ C0 ?_;rintro r w9 ⟨f9,a4⟩;refine Sw ?_;refine A4 (λh3=>?_) λh3=>?_;rotate_left
 ·refine Sw ?_;refine AE rfl rfl (IE _ (g.ext (be.trans a4))) ?_;rintro v aj ⟨rfl,ci⟩;refine Sw ?_;exact QW.body1 Tryz.results6 rfl ⟨rfl,(be.trans a4).trans ci⟩
 have h3:r<5:=by simp at h3;omega
 obtain ⟨B',cb',M',cm',cx',hv,j1,j2,-,sp,j3⟩:=hT.at (i:=0) (row:=r) rfl (ab r h3) (by simp);obtain ⟨eB,-,-⟩:=Value.slice.inj hv;obtain rfl:B=B':=by simpa using eB
 obtain rfl:M=M':=by
  have h:=j1.symm.trans k1;have h2:=(Value.slice.inj (Option.some.inj h)).1
  simpa using h2.symm
 have c1:w9.cell? ((⟨B,0,none⟩:Addr).add ((0:Int).toNat*1))=some (.slice (some ⟨M,0,none⟩) 5 cm):=Aw a4 k1';have c2:w9.cell? ((⟨M,0,none⟩:Addr).add (((r:Nat):Int).toNat*1))=some (.slice (some ⟨ff 0 r,0,none⟩) 2 cx'):=Aw a4 j2;have j3':=j3.ext a4;have c3:w9.cell? ((⟨ff 0 r,0,none⟩:Addr).add ((0:Int).toNat*1))=some (Ap [99]):=by
  rw [Ao];exact j3'.cell rfl
 have c4:w9.cell? ((⟨ff 0 r,0,none⟩:Addr).add ((1:Int).toNat*1))=some (Ap (ws.getD r [])):=by
  rw [Ao];exact j3'.cell rfl
 have c5:w9.cell? ((⟨W,0,none⟩:Addr).add (((r:Nat):Int).toNat*1))=some (Ap (ws.getD r [])):=by
  rw [Ao];refine (aw.ext (b0.trans a4)).cell ?_;rw [show 0+((r:Nat):Int).toNat*1=r by omega,List.getElem?_map,List.getD_eq_getElem?_getD,List.getElem?_eq_getElem (by omega)];rfl
 clear j1 k1 j2 j3 j3' a0;refine Sw ?_;refine CW.drawG (Ag w9) 33 (λw' h=>h) (by kernel_rfl) λwa bh=>?_;refine Cy ?_;refine GW.know (t:=117) (c:=false) rfl (by simp) ?_;refine Cy ?_;refine GW.know (t:=128) (c:=false) rfl (by simp) ?_;refine Cy ?_;refine GW.tail rfl (by kernel_rfl) (λhS=>?_);refine Sa ?_;refine A4 (λh4=>?_) λh4=>?_
 ·simp at h4
 refine Sw ?_;exact QW.again (r+1) ⟨by omega,a4.trans hS⟩ C0 (by omega)
end Go.Proofs.YtefaigjfkddelaaGreatDoor
