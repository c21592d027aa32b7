/-
  Joined by program out of the texts Pak1 Pak2 Pak3 Pak4 Pak5 Pak6 Law24N Close0.
-/
import Derived.Test.YtabjahlbcoigcaaPkB
import Derived.Test.YtabjahlbcoigcaaPkA
import Derived.Test.YtabjahlbcoigcaaPkH
import Derived.Test.YtabjahlbcoigcaaRows
import Derived.ProofKit
import Derived.JoinedOf
namespace Go.Proofs.Ytabjahlbcoigcaa
open Go Go.E
def twoR:Elem (List UInt8×List UInt8):=fun _ _ cs e=>cs=[str e.1,str e.2]
abbrev TwoQ (ok:Addr→Prop):World→Value→List (List UInt8×List UInt8)→Prop:=ListR 2 ok twoR
abbrev TwoR:World→Value→List (List UInt8×List UInt8)→Prop:=TwoQ fun _=>True
theorem TwoQ.chg {S:List Nat} {ok:Addr→Prop} {w w':World} {v:Value} {l:List (List UInt8×List UInt8)} (h:TwoQ ok w v l) (x:Chg S w w') (hs:∀a,ok a→a.block∉S):TwoQ ok w' v l:=ListR.chg h x (fun _=>hs) fun _ _ _ _ h=>h
theorem TwoQ.ext {ok:Addr→Prop} {w w':World} {v:Value} {l:List (List UInt8×List UInt8)} (h:TwoQ ok w v l) (x:Ext w w'):TwoQ ok w' v l:=h.chg x (by simp)
theorem TwoQ.of {ok:Addr→Prop} {w:World} {v:Value} {l:List (List UInt8×List UInt8)} (h:TwoQ ok w v l):TwoR w v l:=ListR.map h (fun _ _=>trivial) fun _ _ _ _ h=>h
theorem TwoQ.at {ok:Addr→Prop} {w:World} {p:Option Addr} {c:Nat} {l:List (List UInt8×List UInt8)} (h:TwoQ ok w (.slice p l.length c) l) {i:Nat} {e:List UInt8×List UInt8} (hi:l[i]?=some e):∃a,p=some a∧ok a∧∀j u,[str e.1,str e.2][j]?=some u→w.cell? ((a.add (((i:Nat):Int).toNat*2)).add j)=some u:=by
 obtain ⟨a,cs,h1,h2,-,h4,h5⟩:=ListR.at h hi;simp only [twoR] at h4;subst h4;exact ⟨a,h1,h2,h5⟩
theorem flat_take_le {α:Type} (f:α→List UInt8) (l:List α) (k:Nat):((l.take k).flatMap f).length≤(l.flatMap f).length:=by
 conv=>rhs;rw [←List.take_append_drop k l,List.flatMap_append,List.length_append]
 omega
theorem flat_take_succ {α:Type} (f:α→List UInt8) {l:List α} {k:Nat} {x:α} (h:l[k]?=some x):(l.take (k+1)).flatMap f=(l.take k).flatMap f++f x:=by
 rw [List.take_add_one,h,List.flatMap_append];simp
structure StP.Ok (s:StP):Prop where
 l:∀e∈s.l,e.2.length≤10000
 refs:∀r∈s.refs,r.1.length≤10000∧r.2.length≤10000
 all:s.bytes.length≤1000000
theorem StP.Ok.parts {s:StP} (h:s.Ok):(putN s.l.length++s.l.flatMap entB).length≤1000000∧(putN s.l.length++s.l.flatMap entB++putN s.refs.length++s.refs.flatMap refB).length≤1000000:=by
 have:=h.all;simp only [StP.bytes,List.length_append] at this ⊢;omega
set_option maxRecDepth 8000 in
set_option maxHeartbeats 1000000 in
theorem sBytes_ret (s:StP) (lv rv:Value) (w:World) (hl:TwoR w lv s.l) (hr:TwoR w rv s.refs) (ho:s.Ok):Ret Try.prog 53 [.agg ⟨[lv,rv]⟩] w (fun v w'=>BytesO w.heap.size w' v s.bytes∧Ext w w'):=by
 obtain ⟨pl,cl,rfl⟩:=hl.slice;obtain ⟨pr,cr,rfl⟩:=hr.slice;have hll:=hl.1;have hrl:=hr.1;obtain ⟨hb1,hb2⟩:=ho.parts;refine Rte Try.func53 Try.ntmps53 ?_;apply CW.seq;apply CW.region;refine Lwb fun A w1 hbA hx1 hA=>?_;replace hA:Blk w1 A [.slice pl s.l.length cl,.slice pr s.refs.length cr] 61:=hA;have hA1:=hA;refine Su ?_;refine Lc0 rfl rfl (Put_ret s.l.length (by omega) w1) ?_;rintro v w2 ⟨hO2,hx2⟩;have hx12:=hx1.trans hx2;have hz1:=hx1.size;replace hA:=hA.ext hx2;refine Su ?_;refine CW.loop (ι:=Nat×Value) (fun x w'=>x.1≤s.l.length∧Ext w1 w'∧BytesO w1.heap.size w' x.2 (putN s.l.length++(s.l.take x.1).flatMap entB)) (fun x=>[(1,.pointer (some ⟨A,0,none⟩)),(3,x.2),(13,.slice pl s.l.length cl),(14,.int .i64 s.l.length),(15,.int .i64 x.1)]) (fun x=>s.l.length - x.1) (0,v) ⟨by omega,hx2,by rw [List.take_zero,List.flatMap_nil,List.append_nil];exact hO2⟩ Sub5 ?_;rintro ⟨k,ov⟩ w3 ⟨hk,hx3,hO3⟩;dsimp only at hk hO3;show CW _ _ _ _ _ [(1,.pointer (some ⟨A,0,none⟩)),(3,ov),(13,.slice pl s.l.length cl),(14,.int .i64 s.l.length),(15,.int .i64 (k:Int))] _;refine Su ?_;refine Cwc (fun h1=>?_) fun h1=>?_
 ·have h1:k<s.l.length:=by simp at h1;omega
  obtain ⟨e,hek⟩:∃e,s.l[k]?=some e:=⟨_,List.getElem?_eq_getElem h1⟩;obtain ⟨a,rfl,-,hc⟩:=TwoQ.at (TwoQ.ext hl (hx1.trans hx3)) hek;have hel:=ho.l e (List.mem_of_getElem? hek);refine Su ?_;refine Lwa fun Z w4 hbZ hx4 hZ=>?_;refine Su ?_;refine Lws fun w5 hc5 hZ=>?_;have hx35:Ext w3 w5:=hx4.step hc5 (by simp;omega);refine Su ?_;refine Lc0 rfl rfl (PutText_ret e.2 (by omega) w5) ?_;rintro u w6 ⟨hO6,hx6⟩;obtain ⟨pu,cu,rfl⟩:=hO6.slice;have hx36:=hx35.trans hx6;have hq:=BytesO.bytes' hO6;have hb:=flat_take_le entB s.l k;have ht:=putT_len (s:=e.2) (by omega);rw [List.length_append] at hb1;refine Su ?_;refine LW.append_any (lo:=w1.heap.size) (k:=(putN s.l.length++(s.l.take k).flatMap entB).length) (xs:=bcells (putN s.l.length++(s.l.take k).flatMap entB)) (news:=bcells (putT e.2)) rfl rfl rfl rfl rfl rfl (hO3.ext hx36) (by have:=hx3.size;have:=hx36.size;omega) (by rw [bcells_len'];show _=_*1;omega) hq (bcells_one _) (by show (_+(putT e.2).length)*2≤_;rw [List.length_append];omega) rfl ?_;intro v7 w7 hc7 hO7 hv7;refine Su ?_;refine QW.again (k+1,v7) ⟨h1,(hx3.trans hx36).step hc7 (fun b hb=>by have:=(hO3.lt hb).1;omega),?_⟩ Sub5 (by show s.l.length - (k+1)<s.l.length - k;omega);have:=BytesO.app hO7;rw [List.append_assoc] at this;show BytesO _ _ v7 (putN s.l.length++(s.l.take (k+1)).flatMap entB);rw [flat_take_succ entB hek];exact this
 have h1:k=s.l.length:=by simp at h1;omega
 subst h1;rw [List.take_length] at hO3;have hx13:=hx1.trans hx3;replace hA:=hA1.ext hx3;refine Su ?_;refine Lc0 rfl rfl (Put_ret s.refs.length (by omega) w3) ?_;rintro v3 w4 ⟨hO4,hx4⟩;obtain ⟨p4,c4,rfl⟩:=hO4.slice;have hq:=BytesO.bytes' hO4;have hpl:=putN_len10 (n:=s.refs.length) (by omega);refine Su ?_;refine LW.append_any (lo:=w1.heap.size) (k:=(putN s.l.length++s.l.flatMap entB).length) (xs:=bcells (putN s.l.length++s.l.flatMap entB)) (news:=bcells (putN s.refs.length)) rfl rfl rfl rfl rfl rfl (hO3.ext hx4) (by have:=hx3.size;have:=hx4.size;omega) (by rw [bcells_len'];show _=_*1;omega) hq (bcells_one _) (by show (_+(putN s.refs.length).length)*2≤_;omega) rfl ?_;intro v5 w5 hc5 hO5 hv5;have hx5:Ext w1 w5:=(hx3.trans hx4).step hc5 (fun b hb=>(hO3.lt hb).1);replace hO5:=BytesO.app hO5;replace hA:=hA1.ext hx5;generalize hpre:putN s.l.length++s.l.flatMap entB++putN s.refs.length=pre at hO5 hb2;refine Su ?_;refine CW.loop (ι:=Nat×Value) (fun x w'=>x.1≤s.refs.length∧Ext w1 w'∧BytesO w1.heap.size w' x.2 (pre++(s.refs.take x.1).flatMap refB)) (fun x=>[(3,x.2),(32,.slice pr s.refs.length cr),(33,.int .i64 s.refs.length),(34,.int .i64 x.1)]) (fun x=>s.refs.length - x.1) (0,v5) ⟨by omega,hx5,by rw [List.take_zero,List.flatMap_nil,List.append_nil];exact hO5⟩ Sub4 ?_;rintro ⟨k,ov⟩ w6 ⟨hk,hx6,hO6⟩;dsimp only at hk hO6;show CW _ _ _ _ _ [(3,ov),(32,.slice pr s.refs.length cr),(33,.int .i64 s.refs.length),(34,.int .i64 (k:Int))] _;refine Su ?_;refine Cwc (fun h1=>?_) fun h1=>?_;rotate_left
 ·have h1:k=s.refs.length:=by simp at h1;omega
  subst h1;rw [List.take_length] at hO6;refine Su ?_;refine QW.body1 Try.results53 rfl ⟨?_,hx1.trans hx6⟩;have e:s.bytes=pre++s.refs.flatMap refB:=by rw [←hpre];simp [StP.bytes]
  rw [e];exact Own.low hO6 hz1
 have h1:k<s.refs.length:=by simp at h1;omega
 obtain ⟨e,hek⟩:∃e,s.refs[k]?=some e:=⟨_,List.getElem?_eq_getElem h1⟩;obtain ⟨a,rfl,-,hc⟩:=TwoQ.at (TwoQ.ext hr (hx1.trans hx6)) hek;obtain ⟨hel,hel2⟩:=ho.refs e (List.mem_of_getElem? hek);refine Su ?_;refine Lwa fun Z w7 hbZ hx7 hZ=>?_;refine Su ?_;refine Lws fun w8 hc8 hZ=>?_;have hx68:Ext w6 w8:=hx7.step hc8 (by simp;omega);refine Su ?_;refine Lc0 rfl rfl (PutText_ret e.1 (by omega) w8) ?_;rintro u w9 ⟨hO9,hx9⟩;obtain ⟨pu,cu,rfl⟩:=hO9.slice;have hx69:=hx68.trans hx9;have hq:=BytesO.bytes' hO9;have hb:=flat_take_le refB s.refs k;have ht:=putT_len (s:=e.1) (by omega);have ht2:=putT_len (s:=e.2) (by omega);rw [List.length_append] at hb2;replace hZ:=hZ.ext hx9;refine Su ?_;refine LW.append_any (lo:=w1.heap.size) (k:=(pre++(s.refs.take k).flatMap refB).length) (xs:=bcells (pre++(s.refs.take k).flatMap refB)) (news:=bcells (putT e.1)) rfl rfl rfl rfl rfl rfl (hO6.ext hx69) (by have:=hx6.size;have:=hx69.size;omega) (by rw [bcells_len'];show _=_*1;omega) hq (bcells_one _) (by show (_+(putT e.1).length)*2≤_;rw [List.length_append];omega) rfl ?_;intro v10 w10 hc10 hO10 hv10;have hxa:Ext w1 w10:=(hx6.trans hx69).step hc10 (fun b hb=>(hO6.lt hb).1);have hZlt:=hZ.lt;have hZ10:=hZ.chg hc10 (fun hb=>by have:=(hO6.lt hb).2;omega);replace hO10:=BytesO.app hO10;refine Su ?_;refine Lc0 rfl rfl (PutText_ret e.2 (by omega) w10) ?_;rintro u2 w11 ⟨hO11,hx11⟩;obtain ⟨pu2,cu2,rfl⟩:=hO11.slice;have hq2:=BytesO.bytes' hO11;refine Su ?_;refine LW.append_any (lo:=w1.heap.size) (k:=(pre++(s.refs.take k).flatMap refB++putT e.1).length) (xs:=bcells (pre++(s.refs.take k).flatMap refB++putT e.1)) (news:=bcells (putT e.2)) rfl rfl rfl rfl rfl rfl (hO10.ext hx11) (by have:=hxa.size;have:=hx11.size;omega) (by rw [bcells_len'];show _=_*1;omega) hq2 (bcells_one _) (by show (_+(putT e.2).length)*2≤_;rw [List.length_append,List.length_append];omega) rfl ?_;intro v12 w12 hc12 hO12 hv12;refine Su ?_;refine QW.again (k+1,v12) ⟨h1,(hxa.trans hx11).step hc12 (fun b hb=>(hO10.lt hb).1),?_⟩ Sub4 (by show s.refs.length - (k+1)<s.refs.length - k;omega);have:=BytesO.app hO12;show BytesO _ _ v12 (pre++(s.refs.take (k+1)).flatMap refB);rw [flat_take_succ refB hek]
 simpa [refB,List.append_assoc] using this
def supN (t h n k:Nat):Nat:=[t,h,n].getD k 0
def supP (t h n k:Nat):List UInt8:=magicP++([t,h,n].take k).flatMap fun n=>putT (putN n)
theorem supP_succ {t h n k:Nat} (hk:k<3):supP t h n (k+1)=supP t h n k++putT (putN (supN t h n k)):=by
 rcases (by omega:k=0∨k=1∨k=2) with rfl | rfl | rfl<;>simp [supP,supN]
theorem supP_all (t h n:Nat):supP t h n 3=superO t h n:=by simp [supP,superO]
theorem supP_le {t h n k:Nat} (ht:t<128 ^ 9) (hh:h<128 ^ 9) (hn:n<128 ^ 9):(supP t h n k).length≤34:=by
 have h1:=superO_len ht hh hn;rw [←supP_all] at h1;have h2:=flat_take_le (fun n=>putT (putN n)) [t,h,n] k;simp only [supP,List.length_append,List.take_of_length_le (show [t,h,n].length≤3 by simp)] at h1 ⊢;omega
set_option maxRecDepth 8000 in
set_option maxHeartbeats 1000000 in
theorem super_ret (t h n:Nat) (w:World) (ht:t<128 ^ 9) (hh:h<128 ^ 9) (hn:n<128 ^ 9):Ret Try.prog 47 [.int .i64 (t:Int),.int .i64 (h:Int),.int .i64 (n:Int)] w (fun v w'=>BytesO w.heap.size w' v (superB t h n)∧Ext w w'):=by
 have e9:(128:Nat) ^ 9=9223372036854775808:=by decide
 refine Rte Try.func47 Try.ntmps47 ?_;refine Su ?_;refine Lwl fun B w1 hbB hx1 hB=>?_;refine LW.mark rfl hB rfl rfl rfl rfl rfl fun w1' hc1' hcl=>?_;have hx1':Ext w w1':=hx1.step hc1' (by simp;omega);have hmg:∀j u,(bcells magicP)[j]?=some u→w1'.cell? ((⟨B,0,none⟩:Addr).add j)=some u:=fun j u hj=>by
  rw [add_addr,Nat.zero_add];exact hcl j u hj
 refine Su ?_;refine Lwl fun C w2 hbC hx2 hC=>?_;replace hC:Blk w2 C [.int .i64 (t:Int),.int .i64 (h:Int),.int .i64 (n:Int)] 3:=hC;have hx02:=hx1'.trans hx2;have hBl:B<w1'.heap.size:=by have:=hB.lt;have:=hc1'.size;omega
 refine Su ?_;refine CW.loop (ι:=Nat×Value) (fun x w'=>x.1≤3∧Ext w2 w'∧(x.1=0∧x.2=.slice (some ⟨B,0,none⟩) 4 4∨0<x.1∧BytesO w2.heap.size w' x.2 (supP t h n x.1))) (fun x=>[(7,x.2),(15,.slice (some ⟨C,0,none⟩) 3 3),(16,.int .i64 3),(17,.int .i64 x.1)]) (fun x=>3 - x.1) (0,_) ⟨by omega,Chg.refl _ _,.inl ⟨rfl,rfl⟩⟩ Sub4 ?_;rintro ⟨k,ov⟩ w3 ⟨hk,hx3,hO3⟩;dsimp only at hk hO3;show CW _ _ _ _ _ [(7,ov),(15,.slice (some ⟨C,0,none⟩) 3 3),(16,.int .i64 3),(17,.int .i64 (k:Int))] _;have hx03:=hx02.trans hx3;have hpl:=supP_le (k:=k) ht hh hn;refine Su ?_;refine Cwc (fun h1=>?_) fun h1=>?_
 ·have h1:k<3:=by simp at h1;omega
  have hm:supN t h n k<128 ^ 9:=by
   rcases (by omega:k=0∨k=1∨k=2) with rfl | rfl | rfl<;>simp [supN]<;>assumption
  have hc:w3.cell? ((⟨C,0,none⟩:Addr).add (((k:Nat):Int).toNat*1))=some (.int .i64 ((supN t h n k:Nat):Int)):=by
   rw [add_addr];refine (hC.ext hx3).cell ?_;rcases (by omega:k=0∨k=1∨k=2) with rfl | rfl | rfl<;>rfl
  refine Su ?_;refine Lc0 rfl rfl (Put_ret (supN t h n k) (by omega) w3) ?_;rintro u w4 ⟨hO4,hx4⟩;obtain ⟨pu,cu,rfl⟩:=hO4.slice;have hl4:=putN_short 9 _ hm (by decide);refine Su ?_;refine LW.string_any (bs:=putN (supN t h n k)) rfl rfl (BytesO.bytes' hO4) rfl rfl rfl rfl rfl rfl rfl ?_;refine Su ?_;refine Lc0 rfl rfl (PutText_ret (putN (supN t h n k)) (by omega) w4) ?_;rintro u2 w5 ⟨hO5,hx5⟩;obtain ⟨pu2,cu2,rfl⟩:=hO5.slice;have hl5:=putT_short (putN (supN t h n k)) (by omega);have hx35:=hx4.trans hx5;have hq:=BytesO.bytes' hO5;refine Su ?_;rcases hO3 with ⟨rfl,rfl⟩ | ⟨hk0,hO3⟩
  ·refine LW.append_from (lo:=w2.heap.size) (xs:=bcells magicP) (news:=bcells (putT (putN (supN t h n 0)))) rfl rfl rfl rfl rfl rfl rfl (.inr ⟨_,rfl,fun j u hj=>cell_ext (hx2.trans (hx3.trans hx35)) (hmg j u hj)⟩) (by have:=hx3.size;have:=hx35.size;omega) (by rw [bcells_len'];show _=_*1;omega) hq (bcells_one _) (putT_pos _) (by show (4+(putT (putN (supN t h n 0))).length)*2≤_;omega) rfl ?_;intro v6 w6 hx6 hO6 hv6;have e0:supP t h n 0=magicP:=by simp [supP]
   replace hO6:E.Own w6 w2.heap.size 5 1 v6 ((supP t h n 0).length+(putT (putN (supN t h n 0))).length) (bcells (supP t h n 0)++bcells (putT (putN (supN t h n 0)))):=by rw [e0];exact hO6
   replace hO6:=BytesO.app hO6;rw [←supP_succ h1] at hO6;refine Su ?_;exact QW.again (0+1,v6) ⟨h1,(hx3.trans hx35).trans hx6,.inr ⟨by simp,hO6⟩⟩ Sub4 (by show 3 - (0+1)<3 - 0;omega)
  refine LW.append_any (lo:=w2.heap.size) (k:=(supP t h n k).length) (xs:=bcells (supP t h n k)) (news:=bcells (putT (putN (supN t h n k)))) rfl rfl rfl rfl rfl rfl (hO3.ext hx35) (by have:=hx3.size;have:=hx35.size;omega) (by rw [bcells_len'];show _=_*1;omega) hq (bcells_one _) (by show (_+(putT (putN (supN t h n k))).length)*2≤_;omega) rfl ?_;intro v6 w6 hc6 hO6 hv6;replace hO6:=BytesO.app hO6;rw [←supP_succ h1] at hO6;refine Su ?_;exact QW.again (k+1,v6) ⟨h1,(hx3.trans hx35).step hc6 (fun b hb=>(hO3.lt hb).1),.inr ⟨by simp,hO6⟩⟩ Sub4 (by show 3 - (k+1)<3 - k;omega)
 have h1:k=3:=by simp at h1;omega
 subst h1;replace hO3:BytesO w.heap.size w3 ov (superO t h n):=by
  rcases hO3 with ⟨e,-⟩ | ⟨-,e⟩
  ·cases e
  ·rw [supP_all] at e;exact Own.low e hx02.size
 have hsl:=superO_len ht hh hn;obtain ⟨p3,c3,rfl⟩:=hO3.slice;refine Su ?_;refine Lc0 rfl rfl (shaSum_ret (superO t h n) _ w3 (BytesO.list hO3 (by omega)).of (by omega)) ?_;rintro u w4 ⟨rfl,hx4⟩;have hsh:=shaB_len (superO t h n);refine Sz ?_;refine LW.append_str (k:=(superO t h n).length) (xs:=bcells (superO t h n)) (s:=(shaB (superO t h n)).take 16) rfl rfl rfl rfl rfl rfl rfl rfl rfl (hO3.ext hx4) (by have:=hx03.size;have:=hx4.size;omega) (by show (_+_)*2≤_;rw [List.length_take];omega) rfl ?_;intro v5 w5 hc5 hO5 hv5;replace hO5:=BytesO.app hO5;obtain ⟨p5,c5,rfl⟩:=hO5.slice;have hql:=superQ_len t h n;have hx5:Ext w w5:=(hx03.trans hx4).step hc5 (fun b hb=>(hO3.lt hb).1)
 change BytesO w.heap.size w5 _ (superQ t h n) at hO5
 refine Su ?_;refine LW.append_make (n:=(superQ t h n).length) (m:=64 - (superQ t h n).length) (xs:=bcells (superQ t h n)) (z:=.int .u8 0) rfl (by show some (Value.int .i64 (64 - ((superQ t h n).length:Int)))=_;congr 2;omega) rfl rfl rfl rfl rfl rfl rfl hO5 hx5.size (by show (_+_)*2≤_;omega) rfl rfl ?_;intro v6 w6 hc6 hO6 hv6;refine Su ?_;refine QW.body1 Try.results47 rfl ⟨?_,hx5.step hc6 (fun b hb=>(hO5.lt hb).1)⟩;have e:bcells (List.replicate (64 - (superQ t h n).length) 0)=List.replicate (64 - (superQ t h n).length) (Value.int .u8 0):=by simp [bcells]
 rw [←e] at hO6;have e2:64 - (superQ t h n).length=(List.replicate (64 - (superQ t h n).length) (0:UInt8)).length:=by simp
 rw [e2] at hO6;exact BytesO.app (by rw [←e2] at hO6 ⊢;exact hO6)
theorem zeros_text:getT zeros64 4=some ([],5):=by decide +kernel
set_option maxRecDepth 8000 in
theorem told_zero (p:Option Addr) (c:Nat) (w:World) (h:BytesR w (.slice p 64 c) zeros64) (hc:64≤c):Ret Try.prog 25 [.slice p 64 c] w (fun v w'=>v=.tuple #[.int .i64 0,.int .i64 0,.int .i64 0,.bool false]∧Ext w w'):=by
 have hz:zeros64.length=64:=by simp [zeros64]
 refine Rte Try.func25 Try.ntmps25 ?_;refine Su ?_;refine Lwb fun X w1 hbX hx1 hX=>?_;replace hX:RdR w1 X p zeros64.length c 4 false:=hX;have hq:BytesQ (fun a=>a.block<w.heap.size) w (.slice p zeros64.length c) zeros64:=by
  have:=BytesQ.bound h;rw [hz];exact ListR.map this (fun _ h=>h.2) fun _ _ _ _ h=>h
 refine Su ?_;refine Lwa fun Z w2 hbZ hx2 hZ=>?_;replace hX:RdR w2 X p zeros64.length c 4 false:=hX.ext hx2;have hx02:=hx1.trans hx2;have hXl:=hX.lt;have hz1:=hx1.size;refine Su ?_;apply CW.rounds 1;apply RW.succ;refine Su ?_;refine Lc0 rfl rfl (rdText_ret zeros64 p c 4 X false w2 (hq.ext hx02) (by rw [hz];exact hc) (by rw [hz];omega) hX (fun a ha=>by omega)) ?_;rintro v w3 ⟨rfl,hX3,hc3⟩;rw [zeros_text] at hX3 ⊢;have hx3:Ext w w3:=hx02.step hc3 (by simp;omega);refine Su ?_;refine LW.bytes_str (bs:=[]) rfl rfl rfl rfl rfl rfl rfl rfl fun g cap w4 hg hx4 hcap hgl hcell=>?_;have hq4:BytesR w4 (.slice (some ⟨g,0,none⟩) 0 cap) []:=⟨by simp,.inr ⟨_,_,rfl,fun h=>absurd rfl h,fun i b hi=>by simp at hi⟩⟩;refine Su ?_;refine Lc0 rfl rfl (Get_ret [] _ 0 w4 hq4 (Nat.le_refl _)) ?_;rintro v w5 ⟨rfl,hx5⟩;refine Su ?_;exact QW.body (rs:=[.tmp 2,.tmp 3,.tmp 4,.tmp 5]) (vs:=[.int .i64 0,.int .i64 0,.int .i64 0,.bool false]) Try.results25 ⟨rfl,rfl,rfl,rfl,trivial⟩ rfl ⟨rfl,(hx3.trans hx4).trans hx5⟩
open Go Go.E Go.RowKit
theorem sectors_ret (X V:Nat) (d:DskP) (w:World) (h:DiskR w X V d):Ret Try.prog 48 [.pointer (some ⟨X,0,none⟩)] w (fun v w'=>v=.int .i64 ((halfN d.l.length:Nat):Int)∧Ext w w'):=by
 have hl:=h.long;have hs:=h.short;refine Rte Try.func48 Try.ntmps48 ?_;refine Su ?_;refine Lc0 rfl rfl (Sectors_ret X V d w h) ?_;rintro v w1 ⟨rfl,hx⟩;refine Su ?_;refine QW.body1 Try.results48 rfl ⟨?_,hx⟩
 congr 1
 unfold halfN;omega
theorem putAll_snoc:∀(cs:List (List UInt8)) (d:DskP) (i:Nat) (c:List UInt8),(putAll d i cs).2=true→putAll d i (cs++[c])=(putAll d i cs).1.tick (putSec (i+cs.length) c)
 | [],d,i,c,_=>by
  rw [List.nil_append,putAll]
  cases e:d.tick (putSec i c) with
  | mk d' b=>cases b<;>simp [putAll,e]
 | x::cs,d,i,c,h=>by
  rw [putAll] at h;rw [List.cons_append,putAll,putAll]
  cases e:d.tick (putSec i x) with
  | mk d' b=>
   rw [e] at h
   cases b with
   | false=>rw [if_neg (by simp)] at h;cases h
   | true=>
    rw [if_pos rfl] at h ⊢;rw [if_pos rfl,putAll_snoc cs d' (i+1) c h,List.length_cons,show i+1+cs.length=i+(cs.length+1) by omega]
def partP (b:List UInt8) (k:Nat):List UInt8:=((b.drop (k*64)).take 64)++List.replicate (64 - ((b.drop (k*64)).take 64).length) 0
theorem partP_len (b:List UInt8) (k:Nat):(partP b k).length=64:=by
 rw [partP,List.length_append,List.length_replicate,List.length_take];omega
theorem chunkN_parts:∀(m:Nat) (b:List UInt8) (N:Nat),b.length≤m→N*64<b.length+64→b.length≤N*64→chunkN m b=(List.range N).map (partP b)
 | 0,b,N,h,h1,h2=>by
  have:N=0:=by omega
  subst this
  rfl
 | m+1,b,N,h,h1,h2=>by
  rw [chunkN]
  split
  ·rename_i e;subst e;have:N=0:=by simp at h1;omega
   subst this;rfl
  ·rename_i e;have:0<b.length:=List.length_pos_iff.2 e;obtain ⟨q,rfl⟩:∃q,N=q+1:=⟨N - 1,by omega⟩;rw [chunkN_parts m (b.drop 64) q (by rw [List.length_drop];omega) (by rw [List.length_drop];omega) (by rw [List.length_drop];omega),List.range_succ_eq_map,List.map_cons,List.map_map]
   congr 1
   apply List.map_congr_left;intro k _;simp only [Function.comp,partP,List.drop_drop];rw [show 64+k*64=(k+1)*64 by omega]
theorem chunkP_parts (b:List UInt8) (N:Nat) (h1:N*64<b.length+64) (h2:b.length≤N*64):chunkP b=(List.range N).map (partP b):=chunkN_parts _ _ _ (Nat.le_refl _) h1 h2
theorem rise_map {N:Nat} {ys:List (Fin N)} (h:ys.length=N) (k:RiseOk ys):ys.map (·.val)=List.range N:=by
 apply List.ext_getElem?;intro i;rw [List.getElem?_map];by_cases hi:i<N
 ·have e:ys[i]?=some (ys[i]'(by omega)):=List.getElem?_eq_getElem _;rw [e,List.getElem?_range hi];simp [k i _ e]
 ·rw [List.getElem?_eq_none (by omega),List.getElem?_eq_none (by simp;omega)];rfl
theorem putAll_calls:∀(cs:List (List UInt8)) (d:DskP) (i:Nat),(putAll d i cs).1.calls≤d.calls+cs.length∧(putAll d i cs).1.crash=d.crash
 | [],d,i=>⟨Nat.le_refl _,rfl⟩
 | c::cs,d,i=>by
  rw [putAll,List.length_cons]
  cases e:d.tick (putSec i c) with
  | mk d' b=>
   cases b with
   | false=>rw [if_neg (by simp),tick_no e];exact ⟨by dsimp;omega,rfl⟩
   | true=>
    rw [if_pos rfl];obtain ⟨h1,h2⟩:=putAll_calls cs d' (i+1);have e1:d'.calls=d.calls+1∧d'.crash=d.crash:=by rw [tick_ok e];exact ⟨rfl,rfl⟩
    show (putAll d' (i+1) cs).1.calls≤_∧(putAll d' (i+1) cs).1.crash=_;exact ⟨by omega,h2.trans e1.2⟩
theorem putAll_up:∀(cs:List (List UInt8)) (d:DskP) (i:Nat),(putAll d i cs).2=true→(putAll d i cs).1.down=d.down
 | [],_,_,_=>rfl
 | c::cs,d,i,h=>by
  rw [putAll] at h ⊢
  cases e:d.tick (putSec i c) with
  | mk d' b=>
   rw [e] at h
   cases b with
   | false=>rw [if_neg (by simp)] at h;cases h
   | true=>
    rw [if_pos rfl] at h ⊢;rw [putAll_up cs d' (i+1) h,tick_ok e]
theorem DiskR.grown {w w':World} {X V:Nat} {d:DskP} {row:Option Nat} (h:DiskR w X V d) (hg:w.grownBy w' row) (hr:∀r,row=some r→∃o:Obj,w.heap[r]?=some o∧o.isCells=false):DiskR w' X V d:=⟨h.head.grown hg hr,h.row.grown hg hr,h.ne,h.sized,h.long,h.short⟩
theorem Chg.grown {S:List Nat} {w0 w w':World} {row:Option Nat} {B:Nat} (h:Chg S w0 w) (hB:w0.heap.size≤B) (hg:w.grownBy w' row) (hr:∀r,row=some r→B≤r):Chg S w0 w':=
 ⟨hg.os.trans h.os,hg.tape.trans h.tape,hg.output.trans h.output,Nat.le_trans h.size hg.size,fun k hk hn=>(hg.block k (Nat.lt_of_lt_of_le hk h.size) (fun e=>by have:=hr k e.symm;omega)).trans (h.block k hk hn)⟩
theorem putAll_fail:∀(cs ds:List (List UInt8)) (d:DskP) (i:Nat),(putAll d i cs).2=false→putAll d i (cs++ds)=putAll d i cs
 | [],_,_,_,h=>by simp [putAll] at h
 | c::cs,ds,d,i,h=>by
  rw [putAll] at h;rw [List.cons_append,putAll,putAll]
  cases e:d.tick (putSec i c) with
  | mk d' b=>
   rw [e] at h
   cases b with
   | false=>rw [if_neg (by simp),if_neg (by simp)]
   | true=>
    rw [if_pos rfl] at h;rw [if_pos rfl,if_pos rfl];exact putAll_fail cs ds d' (i+1) h
theorem rise_pre {N:Nat} {ys:List (Fin N)} (k:RiseOk ys):ys.length≤N∧ys.map (·.val)=List.range ys.length:=by
 have h1:ys.map (·.val)=List.range ys.length:=by
  apply List.ext_getElem?;intro i;rw [List.getElem?_map];by_cases hi:i<ys.length
  ·have e:ys[i]?=some ys[i]:=List.getElem?_eq_getElem _;rw [e,List.getElem?_range hi];simp [k i _ e]
  ·rw [List.getElem?_eq_none (by omega),List.getElem?_eq_none (by simp;omega)];rfl
 refine ⟨?_,h1⟩;rcases Nat.eq_zero_or_pos ys.length with e | e
 ·omega
 ·have h2:=k (ys.length - 1) _ (List.getElem?_eq_getElem (by omega));have:=(ys[ys.length - 1]'(by omega)).2;omega
theorem parts_done {b:List UInt8} {N:Nat} (h1:N*64<b.length+64) (h2:b.length≤N*64) {ys:List (Fin N)} (h:ys.length=N) (k:RiseOk ys):(ys.map fun x=>partP b x.val)=chunkP b:=by
 rw [chunkP_parts b N h1 h2,←rise_map h k,List.map_map];rfl
theorem parts_fail {b:List UInt8} {N:Nat} (h1:N*64<b.length+64) (h2:b.length≤N*64) {ys:List (Fin N)} (k:RiseOk ys) {d:DskP} {i:Nat} (hf:(putAll d i (ys.map fun x=>partP b x.val)).2=false):putAll d i (chunkP b)=putAll d i (ys.map fun x=>partP b x.val):=by
 obtain ⟨a,e⟩:=rise_pre k;have e2:(ys.map fun x=>partP b x.val)=(List.range ys.length).map (partP b):=by
  rw [←e,List.map_map];rfl
 rw [chunkP_parts b N h1 h2];have e3:(List.range N).map (partP b)=(List.range ys.length).map (partP b)++((List.range N).map (partP b)).drop ys.length:=by
  conv=>lhs;rw [←List.take_append_drop ys.length ((List.range N).map (partP b))]
  congr 1
  rw [←List.map_take]
  congr 1
  apply List.ext_getElem?;intro j;rw [List.getElem?_take]
  split
  ·rename_i hj;rw [List.getElem?_range (by omega),List.getElem?_range hj]
  ·rename_i hj;rw [List.getElem?_eq_none (by simp;omega)]
 rw [e3,e2];rw [e2] at hf;exact putAll_fail _ _ d i hf
section
variable {d:DskP} {t h i0:Nat} {s:StP}
theorem writeP_a (hi:2+(1 - h)*halfN d.l.length=i0) (h1:(putAll d i0 (chunkP s.bytes)).2=false):writeP d t h s=((putAll d i0 (chunkP s.bytes)).1,false):=by
 unfold writeP thenP;rw [hi,h1];exact Prod.ext rfl h1
theorem writeP_b {d1:DskP} (hi:2+(1 - h)*halfN d.l.length=i0) (h1:(putAll d i0 (chunkP s.bytes)).2=true) (e1:(putAll d i0 (chunkP s.bytes)).1=d1) (h2:(d1.tick settleS).2=false):writeP d t h s=((d1.tick settleS).1,false):=by
 unfold writeP thenP;rw [hi,h1,e1,if_pos rfl];dsimp only;rw [h2];exact Prod.ext rfl h2
theorem writeP_c {d1 d2:DskP} (hi:2+(1 - h)*halfN d.l.length=i0) (h1:(putAll d i0 (chunkP s.bytes)).2=true) (e1:(putAll d i0 (chunkP s.bytes)).1=d1) (h2:(d1.tick settleS).2=true) (e2:(d1.tick settleS).1=d2)
  (h3:(d2.tick (putSec ((t+1) % 2) (superB (t+1) (1 - h) s.bytes.length))).2=false):writeP d t h s=((d2.tick (putSec ((t+1) % 2) (superB (t+1) (1 - h) s.bytes.length))).1,false):=by
 unfold writeP thenP;rw [hi,h1,e1,if_pos rfl];dsimp only;rw [h2,if_pos rfl,e2,h3];exact Prod.ext rfl h3
theorem writeP_d {d1 d2 d3:DskP} {b:Bool} (hi:2+(1 - h)*halfN d.l.length=i0) (h1:(putAll d i0 (chunkP s.bytes)).2=true) (e1:(putAll d i0 (chunkP s.bytes)).1=d1) (h2:(d1.tick settleS).2=true) (e2:(d1.tick settleS).1=d2)
  (h3:(d2.tick (putSec ((t+1) % 2) (superB (t+1) (1 - h) s.bytes.length))).2=true) (e3:(d2.tick (putSec ((t+1) % 2) (superB (t+1) (1 - h) s.bytes.length))).1=d3) (h4:(d3.tick settleS).2=b):writeP d t h s=((d3.tick settleS).1,b):=by
 unfold writeP thenP;rw [hi,h1,e1,if_pos rfl];dsimp only;rw [h2,if_pos rfl,e2,h3,if_pos rfl,e3];exact Prod.ext rfl h4
end
theorem tick_more (d:DskP) (f:List SecP→List SecP):(d.tick f).1.crash=d.crash∧(d.tick f).1.calls=d.calls+1∧((d.tick f).2=true→(d.tick f).1.down=d.down∧(d.tick f).1.l=f d.l):=by
 unfold DskP.tick
 split
 ·exact ⟨rfl,rfl,by simp⟩
 ·exact ⟨rfl,rfl,fun _=>⟨rfl,rfl⟩⟩
theorem own_le {w:World} {lo:Nat} {T:TypeId} {k n c:Nat} {p:Option Addr} {xs:List Value} (h:E.Own w lo T k (.slice p n c) n xs):n≤c:=by
 obtain ⟨-,⟨e,e2⟩ | ⟨g,cap,sp,e,-,h1,-,-⟩⟩:=h
 ·omega
 ·simp only [Value.slice.injEq] at e;omega
def packC (X t h:Nat) (lv rv:Value):List Value:=[.pointer (some ⟨X,0,none⟩),.int .i64 (t:Int),.int .i64 (h:Int),lv,rv]
theorem chunk_cells {w:World} {g _c:Nat} {b _sp:List UInt8} {xs:List Value} (h:Blk w g (bcells b++xs) 5) (k:Nat) (_hk:k*64<b.length):BytesR w (.slice (some ((⟨g,0,none⟩:Addr).add (k*64*1))) (chL b.length k) (chL b.length k)) ((b.drop (k*64)).take 64):=by
 have hl:((b.drop (k*64)).take 64).length=chL b.length k:=by
  rw [List.length_take,List.length_drop];rfl
 refine ⟨by rw [hl];unfold chL;omega,.inr ⟨_,chL b.length k,by rw [hl],fun _=>trivial,fun j x hj=>⟨[.int .u8 (x.toNat:Int)],rfl,rfl,fun q u hq=>?_⟩⟩⟩;have hq0:q=0:=by have:=(List.getElem?_eq_some_iff.1 hq).1;simp at this;exact this
 subst hq0;simp only [List.getElem?_cons_zero,Option.some.injEq] at hq;subst hq;have hjl:=(List.getElem?_eq_some_iff.1 hj).1;rw [List.getElem?_take] at hj
 split at hj
 ·rw [List.getElem?_drop] at hj;have hjb:=(List.getElem?_eq_some_iff.1 hj).1;rw [add_addr,add_addr,add_addr,show 0+k*64*1+j*1+0=k*64+j by omega];refine h.cell ?_;rw [List.getElem?_append_left (by rw [bcells_len'];exact hjb),bcells_get,hj];rfl
 ·cases hj
set_option maxRecDepth 8000 in
set_option maxHeartbeats 4000000 in
theorem pWrite_ret (PP X V t h:Nat) (d:DskP) (s:StP) (l0 r0 lv rv:Value) (w:World) (hP:Blk w PP (packC X t h l0 r0) 63) (hD:DiskR w X V d) (hdn:d.down=false) (hPX:PP≠X) (hPY:PP≠V)
  (hl:TwoR w lv s.l) (hr:TwoR w rv s.refs) (ho:s.Ok) (hroom:s.bytes.length≤halfN d.l.length*64) (hh:h≤1) (ht:t≤1000000) (hc:d.crash≤1000000) (hcl:d.calls+s.bytes.length+100≤1000000) :
  Ret Try.prog 31 [.pointer (some ⟨PP,0,none⟩),.agg ⟨[lv,rv]⟩] w (fun v w'=>v=tickV (writeP d t h s).2∧DiskR w' X V (writeP d t h s).1∧Blk w' PP (if (writeP d t h s).2 then packC X (t+1) (1 - h) lv rv else packC X t h l0 r0) 63∧Chg [X,V,PP] w w'):=by
 obtain ⟨pl,cl,rfl⟩:=hl.slice;obtain ⟨pr,cr,rfl⟩:=hr.slice;have hXl:=hD.head.lt;have hYl:=hD.row.lt;have hPl:=hP.lt;have hlong:=hD.long;have hshort:=hD.short;refine Ret.enterM Try.func31 rfl Try.ntmps31 (by kernel_rfl) rfl ?_;apply CW.seq;apply CW.region;refine Lwb fun A w1 hbA hx1 hA=>?_;replace hA:Blk w1 A [.pointer (some ⟨PP,0,none⟩)] 30:=hA;refine Lwb fun B w2 hbB hx2 hB=>?_;replace hB:Blk w2 B [.slice pl s.l.length cl,.slice pr s.refs.length cr] 61:=hB;refine Lwa fun R w3 hbR hx3 hR=>?_;replace hR:Blk w3 R [.int .i64 0] 31:=hR;have hx03:=(hx1.trans hx2).trans hx3;have hz1:=hx1.size;have hz2:=hx2.size;have hAB:A<B∧B<R∧w.heap.size≤A:=by have:=hA.lt;have:=hB.lt;omega
 replace hA:=(hA.ext hx2).ext hx3;replace hB:=hB.ext hx3;replace hP:=hP.ext hx03;replace hD:=hD.ext hx03;refine Su ?_;refine Lc0 rfl rfl (sBytes_ret s _ _ w3 (TwoQ.ext hl hx03) (TwoQ.ext hr hx03) ho) ?_;rintro bv w4 ⟨hO,hx4⟩;have hbl:=ho.all;have hb2:0<s.bytes.length:=by
  have:=putN_pos s.l.length;simp only [StP.bytes,List.length_append];omega
 obtain ⟨g,cap,sp,rfl,hG,hGlo⟩:=hO.get hb2;have hcap:s.bytes.length≤cap:=own_le hO;have hG4:=hG.lt;have hRl:=hR.lt;replace hA:=hA.ext hx4;replace hB:=hB.ext hx4;replace hR:=hR.ext hx4;replace hP:=hP.ext hx4;replace hD:=hD.ext hx4;have hH:=hD.head;refine Su ?_;refine Lc0 rfl rfl (sectors_ret X V d w4 hD) ?_;rintro v w5 ⟨rfl,hx5⟩;replace hA:=hA.ext hx5;replace hB:=hB.ext hx5;replace hR:=hR.ext hx5;replace hP:=hP.ext hx5;replace hD:=hD.ext hx5;replace hG:=hG.ext hx5;have hNN:halfN d.l.length≤8191:=by unfold halfN;omega
 refine Su ?_;refine CW.no rfl (decide_eq_false (by omega)) ?_;refine Su ?_;refine CW.cut (ι:=Unit) (fun _ w'=>Ext w5 w') (fun _=>[(2,.pointer (some ⟨A,0,none⟩)),(3,.pointer (some ⟨B,0,none⟩)),(4,.pointer (some ⟨R,0,none⟩)),(5,.slice (some ⟨g,0,none⟩) s.bytes.length cap),(6,.int .i64 ((halfN d.l.length:Nat):Int)),(7,.int .i64 ((1 - h:Nat):Int)),(8,.int .i64 ((t+1:Nat):Int))]) ?_ ?_
 ·refine Cwd ?_;refine Squ ?_;refine QL.nil fun w6 hx6=>QW.head () hx6 (Sub.cons rfl (Sub.cons rfl (Sub.cons rfl (Sub.cons rfl (Sub.cons rfl (Sub.cons (by show some (Value.int .i64 (1 - (h:Int)))=_;congr 2;omega) (Sub.cons rfl Sub.nil)))))))
 rintro - w6 hx6;replace hA:=hA.ext hx6;replace hB:=hB.ext hx6;replace hR:=hR.ext hx6;replace hP:=hP.ext hx6;replace hD:=hD.ext hx6;replace hG:=hG.ext hx6;have hx46:=hx5.trans hx6;have hx06:=(hx03.trans hx4).trans hx46;have hmul:(((1 - h:Nat):Int))*((halfN d.l.length:Nat):Int)=(((1 - h)*halfN d.l.length:Nat):Int):=by rw [Int.natCast_mul]
 have hmulb:(1 - h)*halfN d.l.length≤halfN d.l.length:=by
  rcases (by omega:h=0∨h=1) with rfl | rfl<;>simp
 generalize hi0:2+(1 - h)*halfN d.l.length=i0;have hi0b:2≤i0∧i0+halfN d.l.length≤d.l.length:=by
  have hN2:halfN d.l.length=(d.l.length - 2) / 2:=rfl;rcases (by omega:h=0∨h=1) with rfl | rfl<;>simp at hi0<;>omega
 refine Su ?_;refine Lwa fun N w7 hbN hx7 hN=>?_;refine Su ?_;refine Lwt fun w8 hc8 hN8=>?_;replace hN8:Blk w8 N [.int .i64 ((i0:Nat):Int)] 3:=by
  have e:(2:Int)+((1 - h:Nat):Int)*((halfN d.l.length:Nat):Int)=((i0:Nat):Int):=by rw [hmul];omega
  rw [←e];exact hN8
 have hx68:Ext w6 w8:=hx7.step hc8 (by simp;omega);have hzn:w6.heap.size≤N:=by omega
 replace hA:=hA.ext hx68;replace hB:=hB.ext hx68;replace hR:=hR.ext hx68;replace hP:=hP.ext hx68;replace hD:=hD.ext hx68;replace hG:=hG.ext hx68;refine Su ?_;refine Lc0 rfl rfl (Chunk_ret (some ⟨g,0,none⟩) s.bytes.length cap w8) ?_;rintro u w9 ⟨CA,CB,rfl,hCA,hCB,hCAlo,hCBlo,hx9⟩;have hNl:=hN8.lt;have hz6:=hx06.size;have hz68:=hx68.size;have hz9:=hx9.size;have hGl:=hG.lt;have hz04:=(hx03.trans hx4).size;have hz46:=hx46.size;have hz4:=hx4.size;have hRw:R<w4.heap.size:=by omega
 have hgX:g≠X∧g≠V∧g≠PP:=by omega
 replace hA:=hA.ext hx9;replace hB:=hB.ext hx9;replace hR:=hR.ext hx9;replace hP:=hP.ext hx9;replace hD:=hD.ext hx9;replace hG:=hG.ext hx9;replace hN8:=hN8.ext hx9;have hx09:=(hx06.trans hx68).trans hx9;have hCAl:=hCA.lt;have hCBl:=hCB.lt;obtain ⟨NN,hn1,hn2⟩:∃NN,NN*64<s.bytes.length+64∧s.bytes.length≤NN*64:=⟨(s.bytes.length+63) / 64,by omega,by omega⟩;have hNNh:NN≤halfN d.l.length:=by omega
 clear hx1 hx2 hx3 hx4 hx5 hx6 hx7 hc8 hmul hmulb;refine Su ?_;have hlt:∀b,b=CA∨b=CB→b<w9.heap.size:=fun b hb=>by rcases hb with rfl | rfl<;>assumption
 have hseq:=chunk_stops ⟨g,0,none⟩ s.bytes.length cap CA CB NN (fun b=>b=CA∨b=CB) w9 (by omega) hcap ⟨hn1,hn2⟩ hCA hCB (.inl rfl) (.inr rfl) hlt;refine CW.rangeFuncR (α:=Fin NN) (gf:=68) (lb:=[.pointer (some ⟨CA,0,none⟩),.pointer (some ⟨CB,0,none⟩)]) (encs:=fun x=>chE ⟨g,0,none⟩ s.bytes.length x.val) (ok:=fun b=>b=CA∨b=CB) (S:=fun ys=>ys.length=NN∧RiseOk ys) (Sp:=fun ys=>RiseOk ys) (N:=NN) (w0:=w9) rfl (by kernel_rfl) hseq (Below.refl _ _) hlt (fun _=>rfl) rfl
  (fun pre W=>(putAll d i0 (pre.map fun x=>partP s.bytes x.val)).2=true∧Chg [X,V,N] w9 W∧DiskR W X V (putAll d i0 (pre.map fun x=>partP s.bytes x.val)).1∧Blk W N [.int .i64 ((i0+pre.length:Nat):Int)] 3)
  (fun c pre W=>c=.ret∧(putAll d i0 (pre.map fun x=>partP s.bytes x.val)).2=false∧Chg [X,V,N,R] w9 W∧DiskR W X V (putAll d i0 (pre.map fun x=>partP s.bytes x.val)).1∧Blk W R [.int .i64 8] 31)
  ?_ ?_ ?_ (fun x=>[(2,.pointer (some ⟨A,0,none⟩)),(4,.pointer (some ⟨R,0,none⟩)),(9,.pointer (some ⟨N,0,none⟩)),(10,.slice (some ((⟨g,0,none⟩:Addr).add (x.val*64*1))) (chL s.bytes.length x.val) (chL s.bytes.length x.val))]) ?_ ?_ ?_ ?_
 ·exact fun pre W W' row hi hg hr=>⟨hi.1,Chg.grown hi.2.1 (Nat.le_refl _) hg (fun r e=>(hr r e).1),hi.2.2.1.grown hg (fun r e=>(hr r e).2),hi.2.2.2.grown hg (fun r e=>(hr r e).2)⟩
 ·exact fun c pre W W' row hi hg hr=>⟨hi.1,hi.2.1,Chg.grown hi.2.2.1 (Nat.le_refl _) hg (fun r e=>(hr r e).1),hi.2.2.2.1.grown hg (fun r e=>(hr r e).2),hi.2.2.2.2.grown hg (fun r e=>(hr r e).2)⟩
 ·refine ⟨rfl,Chg.refl _ _,?_,?_⟩
  ·exact hD
  ·exact hN8
 ·intro lk pre x W K hi hK;have hF:=wide_w.inRound lk;show E.CI _ _ _ _ _ _ _ ((43,.slice (some ((⟨g,0,none⟩:Addr).add (x.val*64*1))) (chL s.bytes.length x.val) (chL s.bytes.length x.val))::_) _;refine Sgi ?_;unfold QW;exact fun a ha=>hK a (ha.sub (Sub.cons rfl (Sub.cons rfl (Sub.cons rfl (Sub.cons rfl (Sub.nil))))))
 ·rintro lk pre x W ⟨he,hcW,hDW,hNW⟩ hlen;have hF:=wide_w.inRound lk;have hS3:∀k:Nat,k≠X→k≠V→k≠N→k∉[X,V,N]:=fun k h1 h2 h3=>by simp [h1,h2,h3]
  have hAW:=hA.chg hcW (hS3 A (by omega) (by omega) (by omega));have hRW:=hR.chg hcW (hS3 R (by omega) (by omega) (by omega));have hPW:=hP.chg hcW (hS3 PP hPX hPY (by omega));have hGW:=hG.chg hcW (hS3 g hgX.1 hgX.2.1 (by omega));have hxl:=x.2;have hxk:x.val*64<s.bytes.length:=by omega
  obtain ⟨hcd,hcrash⟩:=putAll_calls (pre.map fun x=>partP s.bytes x.val) d i0;have hup:=putAll_up _ d i0 he;have hlenD:=putAll_len (pre.map fun x=>partP s.bytes x.val) d i0;have hsn:=putAll_snoc _ d i0 (partP s.bytes x.val) he;rw [List.length_map] at hcd hsn;generalize hDd:(putAll d i0 (pre.map fun x=>partP s.bytes x.val)).1=D at hDW hcd hcrash hup hlenD hsn;have hbt:=chunk_cells (_c:=cap) (_sp:=[]) hGW x.val hxk;have hpl:((s.bytes.drop (x.val*64)).take 64).length=chL s.bytes.length x.val:=by rw [List.length_take,List.length_drop];rfl
  have hchl:chL s.bytes.length x.val≤64:=by unfold chL;omega
  have hHW:=hDW.head.lt;have hYW:=hDW.row.lt;have hNWl:=hNW.lt;have hRWl:=hRW.lt;apply E.CI.block;apply E.CI.seq;apply E.CI.seq;refine E.CI.drawG (Ext W) 11 (noOut_then (noOut_then (noOut_block noOut_own))) (by kernel_rfl) (fun w' h=>h) (by kernel_rfl) fun wa hxa=>?_;refine Sgx ?_;refine Gko 6 fun hS=>?_;refine Lc0 rfl rfl (cloneB_ret ((s.bytes.drop (x.val*64)).take 64) _ _ (BytesQ.ext hbt hS)) ?_;rintro u wb ⟨hOu,hxb⟩;obtain ⟨pu,cu,rfl⟩:=hOu.slice;have hSz:=hS.size;have hSb:=hS.trans hxb;apply LW.nil;refine QW.headed hSb ?_;refine Gko 10 fun hS=>?_;refine LW.append_make (n:=((s.bytes.drop (x.val*64)).take 64).length) (m:=64 - ((s.bytes.drop (x.val*64)).take 64).length) (xs:=bcells ((s.bytes.drop (x.val*64)).take 64)) (z:=.int .u8 0) rfl (by show some (Value.int .i64 (64 - ((chL s.bytes.length x.val:Nat):Int)))=_;congr 2;omega) rfl rfl rfl rfl rfl rfl rfl hOu (by have:=hxb.size;omega) (by show (_+_)*2≤_;omega) rfl rfl ?_;intro v6 wc hcc hOc hvc;have hOp:BytesO W.heap.size wc v6 (partP s.bytes x.val):=by
   have e:bcells (List.replicate (64 - ((s.bytes.drop (x.val*64)).take 64).length) 0)=List.replicate (64 - ((s.bytes.drop (x.val*64)).take 64).length) (Value.int .u8 0):=by simp [bcells]
   rw [←e] at hOc;have:=BytesO.app (l:=(s.bytes.drop (x.val*64)).take 64) (m:=List.replicate (64 - ((s.bytes.drop (x.val*64)).take 64).length) 0) (by rw [List.length_replicate];exact hOc);exact E.Own.low this (by omega)
  have hxc:Ext W wc:=hSb.step hcc (fun b hb=>by have:=(hOu.lt hb).1;omega);have hcz:=hxc.size;apply LW.nil;refine QW.headed hxc ?_;refine GW.tail rfl (by kernel_rfl) (fun hS=>?_);refine Lc0 rfl rfl (DWrite_ret X V (i0+pre.length) v6 (partP s.bytes x.val) D wc (hDW.ext hxc) (by rw [hup];exact hdn) (by rw [hcrash];exact hc) (by omega) (ListR.map (BytesO.list hOp (by rw [partP_len];omega)) (fun a ha=>⟨by omega,by omega⟩) fun _ _ _ _ h=>h) (partP_len _ _) (by rw [hlenD];omega)) ?_;rintro v wd ⟨hv,hDd2,hcd2⟩;have hchg:Chg [X,V,N] W wd:=(hxc.chg).same (hcd2.mono fun k hk _=>by simp at hk;simp;omega)
  cases hb:(D.tick (putSec (i0+pre.length) (partP s.bytes x.val))).2 with
  | true=>
   rw [hb] at hv;obtain rfl:v=.int .i64 0:=hv;refine Su ?_;apply QW.then_i;apply E.CI.seq;refine E.CI.regionP (noOut_then (noOut_then (noOut_block noOut_own))) (by kernel_rfl) ?_;refine Su ?_;apply QW.then_i;refine E.CI.cond rfl (fun h=>by cases h) (fun _=>?_);have hNd:=hNW.chg (hxc.chg.same hcd2) (by simp;omega);refine Sgi ?_;refine E.LI.store hF rfl rfl rfl hNd rfl rfl rfl fun We hce hNe=>?_;refine Sgi ?_;unfold QW;have hcf:Chg [X,V,N] W We:=hchg.same (hce.mono fun k hk _=>by simp at hk;simp;omega);have hDe:=hDd2.chg hce (by simp;omega) (by simp;omega);refine fun _ _=>⟨KeepsFrom.chg hcf (fun b hm=>by
    simp only [List.mem_cons,List.not_mem_nil,or_false] at hm;rcases hm with rfl | rfl | rfl
    ·exact ⟨_,_,hDW.head⟩
    ·exact ⟨_,_,hDW.row⟩
    ·exact ⟨_,_,hNW⟩),KeptOn.chg hcf (fun b hm=>by
    have:b=CA∨b=CB:=hm;have:=hcW.size;exact ⟨by omega,hS3 b (by omega) (by omega) (by omega)⟩),?_,hcW.same hcf,?_,?_⟩
   ·rw [List.map_append,List.map_singleton,hsn];exact hb
   ·rw [List.map_append,List.map_singleton,hsn];exact hDe
   ·have e:(((i0+pre.length:Nat):Int)+1)=((i0+(pre++[x]).length:Nat):Int):=by simp;omega
    rw [←e];exact hNe
  | false=>
   rw [hb] at hv;obtain rfl:v=.int .i64 8:=hv;refine Su ?_;apply QW.then_i;apply E.CI.seq;refine E.CI.regionP (noOut_then (noOut_then (noOut_block noOut_own))) (by kernel_rfl) ?_;refine Su ?_;apply QW.then_i;refine E.CI.cond rfl (fun _=>?_) (fun h=>by cases h);have hRd:=hRW.chg (hxc.chg.same hcd2) (by simp;omega);refine Sgi ?_;refine E.LI.store hF rfl rfl rfl hRd rfl rfl rfl fun We hce hRe=>?_;refine Sgi ?_;unfold QW;have hcf:Chg [X,V,N,R] W We:=(hchg.mono fun k hk _=>by simp at hk;simp;omega).same (hce.mono fun k hk _=>by simp at hk;simp;omega);have hDe:=hDd2.chg hce (by simp;omega) (by simp;omega);refine fun _ _=>⟨KeepsFrom.chg hcf (fun b hm=>by
    simp only [List.mem_cons,List.not_mem_nil,or_false] at hm;rcases hm with rfl | rfl | rfl | rfl
    ·exact ⟨_,_,hDW.head⟩
    ·exact ⟨_,_,hDW.row⟩
    ·exact ⟨_,_,hNW⟩
    ·exact ⟨_,_,hRW⟩),rfl,?_,(hcW.mono fun k hk _=>by simp at hk;simp;omega).same hcf,?_,hRe⟩
   ·rw [List.map_append,List.map_singleton,hsn];exact hb
   ·rw [List.map_append,List.map_singleton,hsn];exact hDe
 ·intro Dd ys W hDlo hyy hii hK;obtain ⟨hyl,hyo⟩:=hyy;obtain ⟨he,hcW,hDW,hNW⟩:=hii;rw [parts_done hn1 hn2 hyl hyo] at he hDW;have hS3:∀k:Nat,k≠X→k≠V→k≠N→k∉[X,V,N]:=fun k h1 h2 h3=>by simp [h1,h2,h3]
  have hA0:=hA.chg hcW (hS3 A (by omega) (by omega) (by omega));have hB0:=hB.chg hcW (hS3 B (by omega) (by omega) (by omega));have hR0:=hR.chg hcW (hS3 R (by omega) (by omega) (by omega));have hP0:=hP.chg hcW (hS3 PP hPX hPY (by omega));obtain ⟨hcd,hcrash⟩:=putAll_calls (chunkP s.bytes) d i0;have hup:=putAll_up _ d i0 he;have hlenD:=putAll_len (chunkP s.bytes) d i0;have hcpl:(chunkP s.bytes).length≤s.bytes.length:=by rw [chunkP_parts _ _ hn1 hn2];simp;omega
  generalize hd1:(putAll d i0 (chunkP s.bytes)).1=d1 at hDW hcd hcrash hup hlenD;have hc0:Chg [X,V,N,R,PP] w9 W:=hcW.mono fun k hk _=>by simp at hk;simp;omega
  have hDd0:Dd<W.heap.size:=(Array.getElem?_eq_some_iff.1 hK).1;have hDn:Dd≠X∧Dd≠V∧Dd≠N∧Dd≠R∧Dd≠PP:=by omega
  have sub2:∀k,k∈[X,V]→k∈[X,V,N,R,PP]:=fun k hk=>by simp at hk;simp;omega
  have hXY2:∀k:Nat,k≠X→k≠V→k∉[X,V]:=fun k h1 h2=>by simp [h1,h2]
  clear hA hB hR hP hG hN8 hcW hNW;refine Su ?_;refine Lc0 rfl rfl (Sync_ret X V d1 W hDW (by rw [hup];exact hdn) (by rw [hcrash];exact hc) (by omega)) ?_;rintro v wa ⟨hv,hDa,hca⟩;obtain ⟨ta,tb,tc⟩:=tick_more d1 settleS;have hAa:=hA0.chg hca (hXY2 _ (by omega) (by omega));have hBa:=hB0.chg hca (hXY2 _ (by omega) (by omega));have hRa:=hR0.chg hca (hXY2 _ (by omega) (by omega));have hPa:=hP0.chg hca (hXY2 _ hPX hPY);have hKa:wa.heap[Dd]?=some (.deferred (some [])):=(hca.block Dd hDd0 (hXY2 _ hDn.1 hDn.2.1)).trans hK;have hcA:Chg [X,V,N,R,PP] w9 wa:=hc0.same (hca.mono fun k hk _=>sub2 k hk);have hDda:Dd<wa.heap.size:=(Array.getElem?_eq_some_iff.1 hKa).1
  cases hb1:(d1.tick settleS).2 with
  | false=>
   rw [hb1] at hv;obtain rfl:v=.int .i64 8:=hv;refine Su ?_;refine Lwt fun wf hcs hRf=>?_;have hKf:wf.heap[Dd]?=some (.deferred (some [])):=(hcs.block Dd hDda (by simp;omega)).trans hKa;have hDf:=hDa.chg hcs (by simp;omega) (by simp;omega);have hPf:=hPa.chg hcs (by simp;omega);have hcf:Chg [X,V,N,R,PP] w9 wf:=hcA.same (hcs.mono fun k hk _=>by simp at hk;simp;omega);have ew:=writeP_b (t:=t) hi0 he hd1 hb1;refine Su ?_;refine QW.bodyM (.inl rfl) Try.results31 hKf (vs:=[_]) ⟨⟨R,rfl,run_load_one rfl rfl (hRf.put hKf rfl) rfl⟩,trivial⟩ rfl ⟨?_,?_,?_,?_⟩
   ·rw [ew];rfl
   ·rw [ew];exact hDf.grown (grownBy_putObj' _ _ _) (fun r e=>by cases e;exact ⟨_,hKf,rfl⟩)
   ·rw [ew];exact hPf.put hKf rfl
   ·exact Chg.grown (B:=w9.heap.size) ((hx09.chg.same hcf).mono fun k hk hlt=>by simp at hk;simp;omega) (by have:=hx09.size;omega) (grownBy_putObj' _ _ _) (fun r e=>by cases e;exact hDlo)
  | true=>
  rw [hb1] at hv;obtain rfl:v=.int .i64 0:=hv;obtain ⟨td,tl⟩:=tc hb1;generalize hd2:(d1.tick settleS).1=d2 at hDa ta tb td tl;have hl2:d2.l.length=d.l.length:=by rw [tl,settle_len,hlenD]
  have hts:t+1<128 ^ 9:=Nat.lt_of_le_of_lt (show t+1≤1000001 by omega) (by decide);have hhs:1 - h<128 ^ 9:=Nat.lt_of_le_of_lt (show 1 - h≤1 by omega) (by decide);have hbs:s.bytes.length<128 ^ 9:=Nat.lt_of_le_of_lt hbl (by decide);refine Su ?_;apply CW.noP;refine CW.drawG (Ext wa) 11 (fun w' h=>h) (by kernel_rfl) fun wb hxb=>?_;refine Sgx ?_;refine Gko 10 fun hS=>?_;refine Lc0 rfl rfl (super_ret (t+1) (1 - h) s.bytes.length _ hts hhs hbs) ?_;rintro u wc ⟨hOs,hxc⟩;obtain ⟨ps,cs,rfl⟩:=hOs.slice;have hac:=hS.trans hxc;have hSz:=hS.size;have hDah:=hDa.head.lt;have hDay:=hDa.row.lt;apply LW.nil;refine QW.headed hac ?_;refine GW.tail rfl (by kernel_rfl) (fun hS=>?_);refine Lc0 rfl rfl (DWrite_ret X V ((t+1) % 2) _ (superB (t+1) (1 - h) s.bytes.length) d2 wc (hDa.ext hac) (by rw [td,hup];exact hdn) (by rw [ta,hcrash];exact hc) (by rw [tb];omega) (ListR.map (BytesO.list hOs (by rw [superB_len hts hhs hbs];omega)) (fun a ha=>⟨by omega,by omega⟩) fun _ _ _ _ h=>h) (superB_len hts hhs hbs) (by rw [hl2];omega)) ?_;rintro v we ⟨hv,hDe,hce⟩;obtain ⟨ua,ub,uc⟩:=tick_more d2 (putSec ((t+1) % 2) (superB (t+1) (1 - h) s.bytes.length));have hAe:=(hAa.ext hac).chg hce (hXY2 _ (by omega) (by omega));have hBe:=(hBa.ext hac).chg hce (hXY2 _ (by omega) (by omega));have hRe:=(hRa.ext hac).chg hce (hXY2 _ (by omega) (by omega));have hPe:=(hPa.ext hac).chg hce (hXY2 _ hPX hPY);have hce':Chg [X,V] wa we:=hac.chg.same hce;have hKe:we.heap[Dd]?=some (.deferred (some [])):=(hce'.block Dd hDda (hXY2 _ hDn.1 hDn.2.1)).trans hKa;have hcE:Chg [X,V,N,R,PP] w9 we:=hcA.same (hce'.mono fun k hk _=>sub2 k hk);have hDde:Dd<we.heap.size:=(Array.getElem?_eq_some_iff.1 hKe).1
  cases hb2:(d2.tick (putSec ((t+1) % 2) (superB (t+1) (1 - h) s.bytes.length))).2 with
  | false=>
   rw [hb2] at hv;obtain rfl:v=.int .i64 8:=hv;refine Su ?_;apply QW.noP_n;refine Su ?_;refine Lwt fun wf hcs hRf=>?_;have hKf:wf.heap[Dd]?=some (.deferred (some [])):=(hcs.block Dd hDde (by simp;omega)).trans hKe;have hDf:=hDe.chg hcs (by simp;omega) (by simp;omega);have hPf:=hPe.chg hcs (by simp;omega);have hcf:Chg [X,V,N,R,PP] w9 wf:=hcE.same (hcs.mono fun k hk _=>by simp at hk;simp;omega);have ew:=writeP_c (t:=t) hi0 he hd1 hb1 hd2 hb2;refine Su ?_;refine QW.bodyM (.inl rfl) Try.results31 hKf (vs:=[_]) ⟨⟨R,rfl,run_load_one rfl rfl (hRf.put hKf rfl) rfl⟩,trivial⟩ rfl ⟨?_,?_,?_,?_⟩
   ·rw [ew];rfl
   ·rw [ew];exact hDf.grown (grownBy_putObj' _ _ _) (fun r e=>by cases e;exact ⟨_,hKf,rfl⟩)
   ·rw [ew];exact hPf.put hKf rfl
   ·exact Chg.grown (B:=w9.heap.size) ((hx09.chg.same hcf).mono fun k hk hlt=>by simp at hk;simp;omega) (by have:=hx09.size;omega) (grownBy_putObj' _ _ _) (fun r e=>by cases e;exact hDlo)
  | true=>
  rw [hb2] at hv;obtain rfl:v=.int .i64 0:=hv;obtain ⟨ud,ul⟩:=uc hb2;generalize hd3:(d2.tick (putSec ((t+1) % 2) (superB (t+1) (1 - h) s.bytes.length))).1=d3 at hDe ua ub ud ul;refine Su ?_;apply QW.noP_n;refine Su ?_;refine Lc0 rfl rfl (Sync_ret X V d3 we hDe (by rw [ud,td,hup];exact hdn) (by rw [ua,ta,hcrash];exact hc) (by rw [ub,tb];omega)) ?_;rintro v wg ⟨hv,hDg,hcg⟩;have hAg:=hAe.chg hcg (hXY2 _ (by omega) (by omega));have hBg:=hBe.chg hcg (hXY2 _ (by omega) (by omega));have hRg:=hRe.chg hcg (hXY2 _ (by omega) (by omega));have hPg:=hPe.chg hcg (hXY2 _ hPX hPY);have hKg:wg.heap[Dd]?=some (.deferred (some [])):=(hcg.block Dd hDde (hXY2 _ hDn.1 hDn.2.1)).trans hKe;have hcG:Chg [X,V,N,R,PP] w9 wg:=hcE.same (hcg.mono fun k hk _=>sub2 k hk);have hDdg:Dd<wg.heap.size:=(Array.getElem?_eq_some_iff.1 hKg).1
  cases hb3:(d3.tick settleS).2 with
  | false=>
   rw [hb3] at hv;obtain rfl:v=.int .i64 8:=hv;refine Su ?_;refine Lwt fun wf hcs hRf=>?_;have hKf:wf.heap[Dd]?=some (.deferred (some [])):=(hcs.block Dd hDdg (by simp;omega)).trans hKg;have hDf:=hDg.chg hcs (by simp;omega) (by simp;omega);have hPf:=hPg.chg hcs (by simp;omega);have hcf:Chg [X,V,N,R,PP] w9 wf:=hcG.same (hcs.mono fun k hk _=>by simp at hk;simp;omega);have ew:=writeP_d (t:=t) hi0 he hd1 hb1 hd2 hb2 hd3 hb3;refine Su ?_;refine QW.bodyM (.inl rfl) Try.results31 hKf (vs:=[_]) ⟨⟨R,rfl,run_load_one rfl rfl (hRf.put hKf rfl) rfl⟩,trivial⟩ rfl ⟨?_,?_,?_,?_⟩
   ·rw [ew];rfl
   ·rw [ew];exact hDf.grown (grownBy_putObj' _ _ _) (fun r e=>by cases e;exact ⟨_,hKf,rfl⟩)
   ·rw [ew];exact hPf.put hKf rfl
   ·exact Chg.grown (B:=w9.heap.size) ((hx09.chg.same hcf).mono fun k hk hlt=>by simp at hk;simp;omega) (by have:=hx09.size;omega) (grownBy_putObj' _ _ _) (fun r e=>by cases e;exact hDlo)
  | true=>
  rw [hb3] at hv;obtain rfl:v=.int .i64 0:=hv;have hPPn:A≠PP∧B≠PP∧R≠PP:=by omega
  refine Su ?_;apply CW.noP;refine CW.drawG (fun w'=>Chg [PP] wg w') 14 (fun w' hx=>hx.chg) (by kernel_rfl) fun wh hxh=>?_;refine GW.take 0 rfl rfl rfl rfl (fun w' hw=>Y.load rfl (hAg.chg hw (by simp;omega)) rfl rfl rfl) rfl rfl (by kernel_rfl) (by kernel_rfl) (by kernel_rfl) (fun _ _ _ h=>h) ?_;refine GW.take 1 rfl rfl rfl rfl (fun w' hw=>Y.load rfl (hAg.chg hw (by simp;omega)) rfl rfl rfl) rfl rfl (by kernel_rfl) (by kernel_rfl) (by kernel_rfl) (fun _ _ _ h=>h) ?_;refine GW.take 2 rfl rfl rfl rfl (fun w' hw=>Y.load rfl (hAg.chg hw (by simp;omega)) rfl rfl rfl) rfl rfl (by kernel_rfl) (by kernel_rfl) (by kernel_rfl) (fun _ _ _ h=>h) ?_;refine GW.take 3 rfl rfl rfl rfl (fun w' hw=>Y.load_all rfl (hBg.chg hw (by simp;omega)) rfl rfl rfl) rfl rfl (by kernel_rfl) (by kernel_rfl) (by kernel_rfl) (fun _ _ _ h=>h) ?_;refine Sgx ?_;refine Gko 8 fun hS=>?_;have hPh:=hPg.ext hxh;refine LW.store_agg (i:=3) (cs:=[.slice pl s.l.length cl,.slice pr s.refs.length cr]) rfl rfl rfl hPh (by simp [packC]) rfl rfl fun wi hci hPi=>?_;replace hPi:Blk wi PP (packC X t h (.slice pl s.l.length cl) (.slice pr s.refs.length cr)) 63:=hPi;apply LW.nil;have hgi:Chg [PP] wg wi:=hxh.chg.same hci;refine QW.headed hgi ?_;clear hS;refine Sgx ?_;refine Gko 11 fun hS=>?_;refine Lwt fun wj hcj hPj=>?_;replace hPj:Blk wj PP (packC X t (1 - h) (.slice pl s.l.length cl) (.slice pr s.refs.length cr)) 63:=hPj;apply LW.nil;have hgj:Chg [PP] wg wj:=hgi.same hcj;refine QW.headed hgj ?_;clear hS;refine Sgx ?_;refine GW.tail rfl (by kernel_rfl) (fun hS=>?_);refine Lwt fun wk hck hPk=>?_;replace hPk:Blk wk PP (packC X (t+1) (1 - h) (.slice pl s.l.length cl) (.slice pr s.refs.length cr)) 63:=hPk;have hgk:Chg [PP] wg wk:=hgj.same hck;have hRk:=hRg.chg hgk (by simp;omega);have hKk:wk.heap[Dd]?=some (.deferred (some [])):=(hgk.block Dd hDdg (by simp;omega)).trans hKg;have hDk:=hDg.chg hgk (by simp;omega) (by simp;omega);have hcK:Chg [X,V,N,R,PP] w9 wk:=hcG.same (hgk.mono fun k hk _=>by simp at hk;simp;omega);have hDdk:Dd<wk.heap.size:=(Array.getElem?_eq_some_iff.1 hKk).1;refine Su ?_;apply QW.noP_n;refine Su ?_;refine Lwt fun wf hcs hRf=>?_;have hKf:wf.heap[Dd]?=some (.deferred (some [])):=(hcs.block Dd hDdk (by simp;omega)).trans hKk;have hDf:=hDk.chg hcs (by simp;omega) (by simp;omega);have hPf:=hPk.chg hcs (by simp;omega);have hcf:Chg [X,V,N,R,PP] w9 wf:=hcK.same (hcs.mono fun k hk _=>by simp at hk;simp;omega)
  have ew:=writeP_d (t:=t) hi0 he hd1 hb1 hd2 hb2 hd3 hb3;refine Su ?_;refine QW.bodyM (.inl rfl) Try.results31 hKf (vs:=[_]) ⟨⟨R,rfl,run_load_one rfl rfl (hRf.put hKf rfl) rfl⟩,trivial⟩ rfl ⟨?_,?_,?_,?_⟩
  ·rw [ew];rfl
  ·rw [ew];exact hDf.grown (grownBy_putObj' _ _ _) (fun r e=>by cases e;exact ⟨_,hKf,rfl⟩)
  ·rw [ew];exact hPf.put hKf rfl
  ·exact Chg.grown (B:=w9.heap.size) ((hx09.chg.same hcf).mono fun k hk hlt=>by simp at hk;simp;omega) (by have:=hx09.size;omega) (grownBy_putObj' _ _ _) (fun r e=>by cases e;exact hDlo)
 ·intro Dd c pre wf hDlo hrise hii hKf;obtain ⟨rfl,he,hcW,hDf,hRf⟩:=hii;have hPf:=hP.chg hcW (by simp;omega);have hcf:Chg [X,V,N,R,PP] w9 wf:=hcW.mono fun k hk _=>by simp at hk;simp;omega
  have e0:=parts_fail hn1 hn2 hrise he;have ew:=writeP_a (t:=t) hi0 (by rw [e0];exact he);rw [e0] at ew;refine Su ?_;refine QW.bodyM (.inl rfl) Try.results31 hKf (vs:=[_]) ⟨⟨R,rfl,run_load_one rfl rfl (hRf.put hKf rfl) rfl⟩,trivial⟩ rfl ⟨?_,?_,?_,?_⟩
  ·rw [ew];rfl
  ·rw [ew];exact hDf.grown (grownBy_putObj' _ _ _) (fun r e=>by cases e;exact ⟨_,hKf,rfl⟩)
  ·rw [ew];exact hPf.put hKf rfl
  ·exact Chg.grown (B:=w9.heap.size) ((hx09.chg.same hcf).mono fun k hk hlt=>by simp at hk;simp;omega) (by have:=hx09.size;omega) (grownBy_putObj' _ _ _) (fun r e=>by cases e;exact hDlo)
def twoC (e:List UInt8×List UInt8):List Value:=[str e.1,str e.2]
theorem twoC_one (l:List (List UInt8×List UInt8)):∀u∈l.flatMap twoC,u.oneCell'=true:=fun u hu=>by
 obtain ⟨e,_,h⟩:=List.mem_flatMap.1 hu;simp only [twoC,List.mem_cons,List.not_mem_nil,or_false] at h;rcases h with rfl | rfl<;>rfl
theorem twoC_len (l:List (List UInt8×List UInt8)):(l.flatMap twoC).length=l.length*2:=by
 induction l with
 | nil=>rfl
 | cons e l ih=>rw [List.flatMap_cons,List.length_append,ih,List.length_cons];simp [twoC];omega
theorem addr_two (a:Addr) (i j:Nat):(a.add i).add j=a.add (i+j):=by
 unfold Addr.add;by_cases h1:i=0<;>by_cases h2:j=0<;>simp [h1,h2]<;>omega
theorem TwoQ.cells {ok:Addr→Prop} {w:World} {p:Option Addr} {c:Nat} {l:List (List UInt8×List UInt8)} (h:TwoQ ok w (.slice p l.length c) l):p=none∧l.length=0∨∃a,p=some a∧∀j u,(l.flatMap twoC)[j]?=some u→w.cell? (a.add j)=some u:=by
 rcases Nat.eq_zero_or_pos l.length with e | e
 ·have:l=[]:=List.eq_nil_of_length_eq_zero e;subst this
  cases p with
  | none=>exact .inl ⟨rfl,rfl⟩
  | some a=>exact .inr ⟨a,rfl,fun j u hj=>by simp at hj⟩
 ·obtain ⟨e0,he0⟩:∃e,l[0]?=some e:=⟨_,List.getElem?_eq_getElem e⟩;obtain ⟨a,rfl,-,-⟩:=TwoQ.at h he0;refine .inr ⟨a,rfl,fun j u hj=>?_⟩;have hjl:=(List.getElem?_eq_some_iff.1 hj).1;rw [twoC_len] at hjl;obtain ⟨x,hx⟩:∃x,l[j / 2]?=some x:=⟨_,List.getElem?_eq_getElem (by omega)⟩;obtain ⟨a',e',-,hc⟩:=TwoQ.at h hx;obtain rfl:=Option.some.inj e';have hg:=flat_get (f:=twoC) (m:=2) (fun _=>rfl) l [] (j / 2) x (j % 2) hx (by omega);rw [List.append_nil,show j / 2*2+j % 2=j by omega,hj] at hg;have:=hc (j % 2) u hg.symm;rw [addr_two,show ((j / 2:Nat):Int).toNat*2+j % 2=j by omega] at this;exact this
theorem own_two {lo:Nat} {T:TypeId} {w:World} {v:Value} {l:List (List UInt8×List UInt8)} (h:E.Own w lo T 2 v l.length (l.flatMap twoC)) (hl:l.length≤1000000):TwoQ (fun a=>lo≤a.block) w v l:=by
 obtain ⟨hx,⟨rfl,e⟩ | ⟨g,cap,sp,rfl,hB,h1,h2,h3⟩⟩:=h
 ·have:l=[]:=List.eq_nil_of_length_eq_zero e;subst this;exact ListR.nil
 ·refine ⟨hl,.inr ⟨⟨g,0,none⟩,cap,rfl,fun _=>h3,fun i b hi=>⟨twoC b,rfl,rfl,fun j u hj=>?_⟩⟩⟩;have hj2:j<2:=by have:=(List.getElem?_eq_some_iff.1 hj).1;simpa [twoC] using this
  rw [add_addr,add_addr];refine hB.cell ?_;have hg:=flat_get (f:=twoC) (m:=2) (fun _=>rfl) l sp i b j hi hj2;rw [show 0+i*2+j=i*2+j by omega,hg];exact hj
set_option maxHeartbeats 1000000 in
theorem cloneE_ret (l:List (List UInt8×List UInt8)) (v:Value) (w:World) (h:TwoR w v l):Ret Try.prog 41 [v] w (fun u w'=>E.Own w' w.heap.size 44 2 u l.length (l.flatMap twoC)∧Ext w w'):=by
 obtain ⟨p,c,rfl⟩:=h.slice;have hll:=h.1;refine Rte Try.func41 Try.ntmps41 ?_;refine Sa ?_;refine LW.eql_sn rfl rfl rfl rfl ?_
 cases p with
 | none=>
  have:l=[]:=by
   obtain ⟨_,⟨_,e⟩ | ⟨a,_,e,_⟩⟩:=h
   ·exact e
   ·simp at e
  subst this;refine Sa ?_
  exact QW.body1 Try.results41 rfl ⟨E.Own.nil _ _ _ _,Chg.refl _ _⟩
 | some a=>
 refine Sa ?_;refine LW.buildSlice0 rfl rfl rfl rfl ?_;intro B w7 hbB hx7 hB;refine Sa ?_;refine LW.append_any (lo:=w.heap.size) (xs:=[]) (news:=l.flatMap twoC) rfl rfl rfl rfl rfl rfl ⟨rfl,.inr ⟨B,0,[],rfl,hB,Nat.le_refl _,by simp,by omega⟩⟩ hx7.size (twoC_len l) (TwoQ.cells (TwoQ.ext h hx7)) (twoC_one l) (by show (0+_)*33≤_;omega) rfl ?_;intro v8 w8 hc8 hO8 hv8;rw [Nat.zero_add,List.nil_append] at hO8;obtain ⟨p8,c8,rfl⟩:=hO8.slice;refine Sa ?_;exact QW.body1 Try.results41 rfl ⟨hO8,hx7.step hc8 (fun b hb=>by simp [vblk] at hb;omega)⟩
set_option maxHeartbeats 1000000 in
theorem cloneB2_ret (l:List (List UInt8×List UInt8)) (v:Value) (w:World) (h:TwoR w v l):Ret Try.prog 33 [v] w (fun u w'=>E.Own w' w.heap.size 72 2 u l.length (l.flatMap twoC)∧Ext w w'):=by
 obtain ⟨p,c,rfl⟩:=h.slice;have hll:=h.1;refine Rte Try.func33 Try.ntmps33 ?_;refine Sa ?_;refine LW.eql_sn rfl rfl rfl rfl ?_
 cases p with
 | none=>
  have:l=[]:=by
   obtain ⟨_,⟨_,e⟩ | ⟨a,_,e,_⟩⟩:=h
   ·exact e
   ·simp at e
  subst this;refine Sa ?_
  exact QW.body1 Try.results33 rfl ⟨E.Own.nil _ _ _ _,Chg.refl _ _⟩
 | some a=>
 refine Sa ?_;refine LW.buildSlice0 rfl rfl rfl rfl ?_;intro B w7 hbB hx7 hB;refine Sa ?_;refine LW.append_any (lo:=w.heap.size) (xs:=[]) (news:=l.flatMap twoC) rfl rfl rfl rfl rfl rfl ⟨rfl,.inr ⟨B,0,[],rfl,hB,Nat.le_refl _,by simp,by omega⟩⟩ hx7.size (twoC_len l) (TwoQ.cells (TwoQ.ext h hx7)) (twoC_one l) (by show (0+_)*33≤_;omega) rfl ?_;intro v8 w8 hc8 hO8 hv8;rw [Nat.zero_add,List.nil_append] at hO8;obtain ⟨p8,c8,rfl⟩:=hO8.slice;refine Sa ?_;exact QW.body1 Try.results33 rfl ⟨hO8,hx7.step hc8 (fun b hb=>by simp [vblk] at hb;omega)⟩
theorem two_of_nil {w:World} {v:Value} (h:TwoR w v []):∃p c,v=.slice p 0 c∧(p=none→c=0):=by
 obtain ⟨-,⟨rfl,-⟩ | ⟨a,c,rfl,-⟩⟩:=h
 ·exact ⟨none,0,rfl,fun _=>rfl⟩
 ·exact ⟨some a,c,rfl,fun k=>by cases k⟩
theorem Grow0_ret (w:World):Ret Try.prog 76 [.slice none 0 0,.int .i64 0] w (fun v w'=>v=.slice none 0 0∧Ext w w'):=by
 refine Rte Try.func76 Try.ntmps76 ?_;refine Su ?_;refine LW.cap rfl rfl rfl rfl ?_;refine Su ?_;exact QW.body1 Try.results76 rfl ⟨rfl,Chg.refl _ _⟩
set_option maxRecDepth 8000 in
set_option maxHeartbeats 1000000 in
theorem Concat0_ret (C c:Nat) (w:World) (h:Blk w C [.slice none 0 0,.slice none 0 0] 35):Ret Try.prog 58 [.slice (some ⟨C,0,none⟩) 2 c] w (fun v w'=>TwoR w' v []∧Ext w w'):=by
 have hc0:∀w',Ext w w'→w'.cell? ((⟨C,0,none⟩:Addr).add ((0:Int).toNat*1))=some (.slice none 0 0):=fun w' hx=>by
  rw [add_addr];exact (h.ext hx).cell rfl
 have hc1:∀w',Ext w w'→w'.cell? ((⟨C,0,none⟩:Addr).add ((0+1:Int).toNat*1))=some (.slice none 0 0):=fun w' hx=>by
  rw [add_addr];exact (h.ext hx).cell rfl
 have a0:=hc0 w (Chg.refl _ _);have a1:=hc1 w (Chg.refl _ _);refine Rte Try.func58 Try.ntmps58 ?_;refine Su ?_;apply CW.rounds 3;apply RW.succ;refine Su ?_;refine Lc0 rfl rfl (Grow0_ret w) ?_;rintro v w1 ⟨rfl,hx1⟩;have b0:=hc0 w1 hx1;refine Su ?_;apply CW.rounds 3;apply RW.succ;refine Su ?_;refine LW.append_any (lo:=w1.heap.size) (k:=0) (m:=0) (xs:=[]) (news:=[]) rfl rfl rfl rfl rfl rfl (E.Own.nil _ _ _ _) (Nat.le_refl _) rfl (.inl ⟨rfl,rfl⟩) (by simp) (by decide) rfl ?_;intro v2 w2 hc2 hO2 hv2;replace hc2:Ext w1 w2:=hc2.mono (by simp [vblk]);have b1:=hc1 w2 (hx1.trans hc2);obtain ⟨p2,c2,rfl⟩:=hO2.slice;refine Su ?_;refine LW.append_any (lo:=w1.heap.size) (k:=0) (m:=0) (xs:=[]) (news:=[]) rfl rfl rfl rfl rfl rfl hO2 hc2.size rfl (.inl ⟨rfl,rfl⟩) (by simp) (by decide) rfl ?_;intro v3 w3 hc3 hO3 hv3;obtain ⟨p3,c3,rfl⟩:=hO3.slice;refine Su ?_;refine QW.body1 Try.results58 rfl ⟨(own_two (l:=[]) hO3 (by simp)).of,hx1.trans (hc2.step hc3 (fun b hb=>(hO2.lt hb).1))⟩
theorem Insert0_ret (p:Option Addr) (c:Nat) (f:Value) (w:World):Ret Try.prog 84 [.slice p 0 c,.int .i64 0,.int .i64 0,f] w (fun _ w'=>Ext w w'):=by
 refine Rte Try.func84 Try.ntmps84 ?_;refine Su ?_;apply CW.rounds 1;apply RW.succ;refine Su ?_;exact QW.body_n (rs:=[]) (vs:=[]) rfl trivial rfl (Chg.refl _ _)
theorem Stable0_ret (p:Option Addr) (c:Nat) (f:Value) (w:World):Ret Try.prog 81 [.slice p 0 c,.int .i64 0,f] w (fun _ w'=>Ext w w'):=by
 refine Rte Try.func81 Try.ntmps81 ?_;refine Su ?_;apply CW.rounds 1;apply RW.succ;refine Su ?_;refine Lc0 rfl rfl (Insert0_ret p c f w) ?_;intro v w1 hx1;refine Su ?_;apply CW.rounds 1;apply RW.succ;refine Su ?_;exact QW.body_n (rs:=[]) (vs:=[]) rfl trivial rfl hx1
theorem Sort0_ret (p:Option Addr) (c:Nat) (f:Value) (w:World):Ret Try.prog 71 [.slice p 0 c,f] w (fun _ w'=>Ext w w'):=by
 refine Rte Try.func71 Try.ntmps71 ?_;refine Su ?_;refine Lc0 rfl rfl (Stable0_ret p c f w) ?_;intro v w1 hx1;refine Su ?_;exact QW.body_n (rs:=[]) (vs:=[]) rfl trivial rfl hx1
theorem Compact0_ret (p:Option Addr) (c:Nat) (f:Value) (w:World):Ret Try.prog 74 [.slice p 0 c,f] w (fun v w'=>v=.slice p 0 c∧Ext w w'):=by
 refine Rte Try.func74 Try.ntmps74 ?_;refine Su ?_;exact QW.body1 Try.results74 rfl ⟨rfl,Chg.refl _ _⟩
theorem rising0_ret (v:Value) (w:World) (h:TwoR w v []):Ret Try.prog 57 [v] w (fun u w'=>TwoR w' u []∧Ext w w'):=by
 refine Rte Try.func57 Try.ntmps57 ?_;refine Su ?_;refine Lc0 rfl rfl (cloneE_ret [] v w h) ?_;rintro v1 w1 ⟨hO1,hx1⟩;obtain ⟨p1,c1,rfl⟩:=hO1.slice;refine Su ?_;refine Lc0 rfl rfl (Sort0_ret p1 c1 _ w1) ?_;intro v2 w2 hx2;refine Su ?_;refine Lc0 rfl rfl (Compact0_ret p1 c1 _ w2) ?_;rintro v3 w3 ⟨rfl,hx3⟩;refine Su ?_;refine Lc0 rfl rfl (cloneE_ret [] _ w3 (own_two (l:=[]) ((hO1.ext hx2).ext hx3) (by simp)).of) ?_;rintro v4 w4 ⟨hO4,hx4⟩;refine Su ?_;exact QW.body1 Try.results57 rfl ⟨(own_two hO4 (by simp)).of,((hx1.trans hx2).trans hx3).trans hx4⟩
theorem Join0_ret (w:World):Ret Try.prog 32 [.slice none 0 0,.slice none 0 0] w (fun u w'=>TwoR w' u []∧Ext w w'):=by
 refine Rte Try.func32 Try.ntmps32 ?_;refine Su ?_;refine Lwl fun C w1 hbC hx1 hC=>?_;refine Su ?_;refine Lc0 rfl rfl (Concat0_ret C 2 w1 hC) ?_;rintro v2 w2 ⟨h2,hx2⟩;refine Su ?_;refine Lc0 rfl rfl (rising0_ret v2 w2 h2) ?_;rintro v3 w3 ⟨h3,hx3⟩;refine Su ?_;exact QW.body1 Try.results32 rfl ⟨h3,(hx1.trans hx2).trans hx3⟩
def noneP:StP:=⟨[],[]⟩
theorem noneP_bytes:noneP.bytes=[0,0]:=by
 simp [noneP,StP.bytes,putN_small]
theorem noneP_ok:noneP.Ok:=⟨by simp [noneP],by simp [noneP],by rw [noneP_bytes];decide⟩
theorem May0_ret (w:World):Ret Try.prog 30 [.slice none 0 0] w (fun v w'=>v=.bool true∧Ext w w'):=by
 refine Rte Try.func30 Try.ntmps30 ?_;refine Su ?_;apply CW.rounds 1;apply RW.succ;refine Su ?_;exact QW.body1 Try.results30 rfl ⟨rfl,Chg.refl _ _⟩
set_option maxHeartbeats 1000000 in
theorem Put0_ret (PP X V t h:Nat) (d:DskP) (w:World) (hP:Blk w PP (packC X t h (.slice none 0 0) (.slice none 0 0)) 63) (hD:DiskR w X V d) (hdn:d.down=false) (hPX:PP≠X) (hPV:PP≠V) (hh:h≤1) (ht:t≤1000000) (hc:d.crash≤1000000) (hcl:d.calls+200≤1000000) :
  Ret Try.prog 13 [.pointer (some ⟨PP,0,none⟩),.slice none 0 0,.slice none 0 0] w (fun v w'=>v=tickV (writeP d t h noneP).2∧DiskR w' X V (writeP d t h noneP).1∧Chg [X,V,PP] w w'):=by
 have hlong:=hD.long;refine Rte Try.func13 Try.ntmps13 ?_;refine Su ?_;refine LW.eql_pn rfl rfl rfl rfl ?_;refine Su ?_;apply CW.rounds 1;apply RW.succ;refine Su ?_;refine Lc0 rfl rfl (May0_ret w) ?_;rintro v w1 ⟨rfl,hx1⟩;replace hP:=hP.ext hx1;refine Su ?_;refine Lc0 rfl rfl (Join0_ret w1) ?_;rintro v1 w2 ⟨h1,hx2⟩;obtain ⟨p1,c1,rfl,-⟩:=two_of_nil h1;refine Su ?_;refine Lc0 rfl rfl (cloneB2_ret [] (.slice none 0 0) w2 ListR.nil) ?_;rintro v2 w3 ⟨h2,hx3⟩;obtain ⟨p2,c2,rfl⟩:=h2.slice;have hx03:=(hx1.trans hx2).trans hx3;refine Su ?_;refine Lc0 rfl rfl (pWrite_ret PP X V t h d noneP (.slice none 0 0) (.slice none 0 0) _ _ w3 ((hP.ext hx2).ext hx3) (hD.ext hx03) hdn hPX hPV (TwoQ.ext h1 hx3) (own_two (l:=[]) h2 (by simp)).of noneP_ok (by rw [noneP_bytes];simp [halfN];omega) hh ht hc (by rw [noneP_bytes];simp;omega)) ?_;rintro v w4 ⟨rfl,hD4,-,hc4⟩;refine Su ?_;exact QW.body1 Try.results13 rfl ⟨rfl,hD4,hx03.chg.same hc4⟩
theorem Entries_ret (PP X t h:Nat) (lv rv:Value) (l:List (List UInt8×List UInt8)) (w:World) (hP:Blk w PP (packC X t h lv rv) 63) (hl:TwoR w lv l) :
  Ret Try.prog 19 [.pointer (some ⟨PP,0,none⟩)] w (fun v w'=>E.Own w' w.heap.size 44 2 v l.length (l.flatMap twoC)∧Ext w w'):=by
 refine Rte Try.func19 Try.ntmps19 ?_;refine Su ?_;refine LW.eql_pn rfl rfl rfl rfl ?_;refine Su ?_;refine Lc0 rfl rfl (cloneE_ret l lv w hl) ?_;rintro v w1 ⟨h1,hx1⟩;refine Su ?_;exact QW.body1 Try.results19 rfl ⟨h1,hx1⟩
set_option maxRecDepth 8000 in
set_option maxHeartbeats 1000000 in
theorem Open0_ret (X V:Nat) (d:DskP) (w:World) (hD:DiskR w X V d) (hdn:d.down=false) (hS:Says (nows d.l) 0 0 noneP) :
  Ret Try.prog 8 [.pointer (some ⟨X,0,none⟩)] w (fun v w'=>∃PP,v=.tuple #[.pointer (some ⟨PP,0,none⟩),.int .i64 0]∧Blk w' PP (packC X 0 0 (.slice none 0 0) (.slice none 0 0)) 63∧w.heap.size≤PP∧Ext w w'):=by
 obtain ⟨-,-,z0,z1⟩:=hS.zero rfl;have hlong:=hD.long;have e64:zeros64.length=64:=by simp [zeros64]
 have hsec:∀i:Nat,(nows d.l)[i]?=some zeros64→∃s,d.l[i]?=some s∧s.now=zeros64:=fun i hi=>by
  rw [nows,List.getElem?_map] at hi
  cases e:d.l[i]? with
  | none=>rw [e] at hi;cases hi
  | some s=>rw [e] at hi;exact ⟨s,rfl,Option.some.inj hi⟩
 obtain ⟨s0,hs0,en0⟩:=hsec 0 z0;obtain ⟨s1,hs1,en1⟩:=hsec 1 z1;refine Rte Try.func8 Try.ntmps8 ?_;refine Su ?_;refine Lc0 rfl rfl (Sectors_ret X V d w hD) ?_;rintro v w1 ⟨rfl,hx1⟩;refine Su ?_;refine CW.no rfl (decide_eq_false (by omega)) ?_;refine Su ?_;refine Lwb fun PP w2 hbP hx2 hP=>?_;replace hP:Blk w2 PP (packC X 0 0 (.slice none 0 0) (.slice none 0 0)) 63:=hP;have hx02:=hx1.trans hx2;refine Su ?_;apply CW.rounds 3;apply RW.succ;refine Su ?_;refine Lc0 rfl rfl (DRead_ret X V d 0 s0 w2 (hD.ext hx02) hdn hs0) ?_;rintro v w3 ⟨u,rfl,hO,hx3⟩;rw [en0] at hO;obtain ⟨p3,c3,rfl⟩:=hO.slice;have hcap:=own_le hO;have hq:=(BytesO.list hO (by omega)).of;rw [e64] at hcap hq ⊢;refine Su ?_;refine Lc0 rfl rfl (told_zero p3 c3 w3 hq hcap) ?_;rintro v w4 ⟨rfl,hx4⟩;have hx24:=hx3.trans hx4;refine Su ?_;refine Lc0 rfl rfl (DRead_ret X V d 1 s1 w4 (hD.ext (hx02.trans hx24)) hdn hs1) ?_;rintro v w5 ⟨u,rfl,hO5,hx5⟩;rw [en1] at hO5;obtain ⟨p5,c5,rfl⟩:=hO5.slice;have hcap5:=own_le hO5;have hq5:=(BytesO.list hO5 (by omega)).of;rw [e64] at hcap5 hq5 ⊢;refine Su ?_;refine Lc0 rfl rfl (told_zero p5 c5 w5 hq5 hcap5) ?_;rintro v w6 ⟨rfl,hx6⟩;have hx26:=(hx24.trans hx5).trans hx6;replace hP:=hP.ext hx26;refine Su ?_;exact QW.body2 Try.results8 rfl rfl ⟨PP,rfl,hP,by have:=hx1.size;omega,hx02.trans hx26⟩
theorem GetN_ret (s:List UInt8) (w:World):Ret Try.prog 18 [.pointer none,str s] w (fun v w'=>v=.tuple #[.slice none 0 0,.bool false]∧Ext w w'):=by
 refine Rte Try.func18 Try.ntmps18 ?_;apply CW.seq;apply CW.region;refine Lwb fun A w1 hbA hx1 hA=>?_;refine Su ?_;refine LW.eql_pn rfl rfl rfl rfl ?_;refine Su ?_;exact QW.body2 Try.results18 rfl rfl ⟨rfl,hx1⟩
theorem PutN_ret (u v:Value) (w:World):Ret Try.prog 13 [.pointer none,u,v] w (fun v w'=>v=.int .i64 2∧Ext w w'):=by
 refine Rte Try.func13 Try.ntmps13 ?_;refine Su ?_;refine LW.eql_pn rfl rfl rfl rfl ?_;refine Su ?_;exact QW.body1 Try.results13 rfl ⟨rfl,Chg.refl _ _⟩
theorem KeepN_ret (u:Value) (w:World):Ret Try.prog 16 [.pointer none,u] w (fun v w'=>v=.int .i64 2∧Ext w w'):=by
 refine Rte Try.func16 Try.ntmps16 ?_;refine Su ?_;refine LW.eql_pn rfl rfl rfl rfl ?_;refine Su ?_;exact QW.body1 Try.results16 rfl ⟨rfl,Chg.refl _ _⟩
theorem EntriesN_ret (w:World):Ret Try.prog 19 [.pointer none] w (fun v w'=>v=.slice none 0 0∧Ext w w'):=by
 refine Rte Try.func19 Try.ntmps19 ?_;refine Su ?_;refine LW.eql_pn rfl rfl rfl rfl ?_;refine Su ?_;exact QW.body1 Try.results19 rfl ⟨rfl,Chg.refl _ _⟩
theorem RefsN_ret (w:World):Ret Try.prog 20 [.pointer none] w (fun v w'=>v=.slice none 0 0∧Ext w w'):=by
 refine Rte Try.func20 Try.ntmps20 ?_;refine Su ?_;refine LW.eql_pn rfl rfl rfl rfl ?_;refine Su ?_;exact QW.body1 Try.results20 rfl ⟨rfl,Chg.refl _ _⟩
theorem num1_ret (v:Value) (w:World):Ret Try.prog 9 [v] w (fun u w'=>u=v∧Ext w w'):=by
 refine Rte Try.func9 Try.ntmps9 ?_;refine Su ?_;exact QW.body1 Try.results9 rfl ⟨rfl,Chg.refl _ _⟩
theorem newD_says {s:Nat} (c:Nat) (h:8≤s):Says (nows (newD s c).l) 0 0 noneP:=by
 have hl:(nows (newD s c).l).length=s:=by simp [nows,newD]
 have hz:∀i,i<s→(nows (newD s c).l)[i]?=some zeros64:=fun i hi=>by simp [nows,newD,hi]
 exact ⟨by omega,by omega,fun _=>⟨rfl,rfl,hz 0 (by omega),hz 1 (by omega)⟩,by omega,by omega,by rw [hl,noneP_bytes];simp [halfN];omega,by omega⟩
theorem tick0 {d:DskP} {f:List SecP→List SecP} (h:d.crash=0):(d.tick f).2=true:=by
 unfold DskP.tick;rw [if_neg (by omega)]
theorem putAll0:∀(cs:List (List UInt8)) (d:DskP) (i:Nat),d.crash=0→(putAll d i cs).2=true∧(putAll d i cs).1.crash=0
 | [],_,_,h=>⟨rfl,h⟩
 | c::cs,d,i,h=>by
  rw [putAll,if_pos (tick0 h)];exact putAll0 cs _ (i+1) (by rw [(tick_more d _).1];exact h)
theorem writeP0 {d:DskP} (h:d.crash=0) (t k:Nat) (s:StP):(writeP d t k s).2=true:=by
 obtain ⟨h1,h2⟩:=putAll0 (chunkP s.bytes) d (2+(1 - k)*halfN d.l.length) h;have e1:=(tick_more (putAll d (2+(1 - k)*halfN d.l.length) (chunkP s.bytes)).1 settleS).1.trans h2;have e2:=(tick_more ((putAll d (2+(1 - k)*halfN d.l.length) (chunkP s.bytes)).1.tick settleS).1 (putSec ((t+1) % 2) (superB (t+1) (1 - k) s.bytes.length))).1.trans e1;rw [writeP_d rfl h1 rfl (tick0 h2) rfl (tick0 e1) rfl (tick0 e2)]
set_option maxHeartbeats 1000000 in
theorem awake24_ret (w:World):Ret Try.prog 6 [] w (fun v w'=>v=.bool true∧Ext w w'):=by
 refine Rte Try.func6 Try.ntmps6 ?_;refine Su ?_;refine Lc0 rfl rfl (DNew_ret 40 0 (.slice none 0 0) w (by decide) (by decide) rfl) ?_;rintro v w1 ⟨X,V,rfl,hD,hX,hV,hx1⟩;refine Su ?_;refine Lc0 rfl rfl (Open0_ret X V (newD 40 0) w1 hD rfl (newD_says 0 (by decide))) ?_;rintro v w2 ⟨PP,rfl,hP,hPlo,hx2⟩;have hD2:=hD.ext hx2;have hXl:=hD.head.lt;have hVl:=hD.row.lt;refine Su ?_;refine Lc0 rfl rfl (num1_ret _ w2) ?_;rintro v w3 ⟨rfl,hx3⟩;refine Su ?_;refine LW.val rfl rfl rfl (Y.neq_pn rfl rfl rfl) ?_;refine Su ?_;refine Lc0 rfl rfl (Entries_ret PP X 0 0 _ _ [] w3 (hP.ext hx3) ListR.nil) ?_;rintro v w4 ⟨hO4,hx4⟩;obtain ⟨p4,c4,rfl⟩:=hO4.slice;refine Su ?_;have hx24:=hx3.trans hx4;refine Lc0 rfl rfl (Put0_ret PP X V 0 0 (newD 40 0) w4 (hP.ext hx24) (hD2.ext hx24) rfl (by omega) (by omega) (by omega) (by omega) (by decide) (by decide)) ?_;rintro v w5 ⟨hv,-,hc5⟩;rw [writeP0 rfl] at hv;obtain rfl:v=.int .i64 0:=hv;refine Su ?_;refine Lc0 rfl rfl (num1_ret _ w5) ?_;rintro v w6 ⟨rfl,hx6⟩;refine Su ?_;have hz1:=hx1.size;exact QW.body1 Try.results6 rfl ⟨rfl,((hx1.trans (hx2.trans hx24)).step hc5 (by simp;omega)).trans hx6⟩
set_option maxHeartbeats 1000000 in
theorem PackNil_ret (s:List UInt8) (w:World):Ret Try.prog 4 [str s] w (fun v w'=>v=.bool true∧Ext w w'):=by
 refine Rte Try.func4 Try.ntmps4 ?_;refine Su ?_;refine Lc0 rfl rfl (GetN_ret s w) ?_;rintro v w1 ⟨rfl,hx1⟩;refine Su ?_;refine Lc0 rfl rfl (PutN_ret _ _ w1) ?_;rintro v w2 ⟨rfl,hx2⟩;refine Su ?_;refine Lc0 rfl rfl (num1_ret _ w2) ?_;rintro v w3 ⟨rfl,hx3⟩;refine Su ?_;refine Lc0 rfl rfl (KeepN_ret _ w3) ?_;rintro v w4 ⟨rfl,hx4⟩;refine Su ?_;refine Lc0 rfl rfl (num1_ret _ w4) ?_;rintro v w5 ⟨rfl,hx5⟩;refine Su ?_;refine Lc0 rfl rfl (EntriesN_ret w5) ?_;rintro v w6 ⟨rfl,hx6⟩;refine Su ?_;refine Lc0 rfl rfl (RefsN_ret w6) ?_;rintro v w7 ⟨rfl,hx7⟩;refine Su ?_;refine Lc0 rfl rfl (awake24_ret w7) ?_;rintro v w8 ⟨rfl,hx8⟩;refine Su ?_;exact QW.body1 Try.results4 rfl ⟨rfl,hx1.trans (hx2.trans (hx3.trans (hx4.trans (hx5.trans (hx6.trans (hx7.trans hx8))))))⟩
open Go Go.E Go.ChangeShapes Go.WideShapes Go.ChangeAt Go.RowKit
theorem ownE:ownKnob Try.prog.godebug=none:=by kernel_rfl
theorem laidOutE:laidOutB Try.prog=true:=by kernel_rfl
theorem stays {H:Type} {enc:TypeId×Value→H} {W W':World} (hb:Below W.heap.size W W'):∀{ts:List TypeId} {vs:List Value} {ds:List (DataW H)} {ps:List MemPlace},
  (∀t∈ts,Try.prog.readableRec t=true∧t<Try.prog.types.size)→DataW.TrodAll enc Try.prog W 0 (fun _=>true) true ts vs ds ps→(∀x∈ps,x.block<W.heap.size)→
  DataW.TrodAll enc Try.prog W' 0 (fun b=>decide (b<W.heap.size)) true ts vs ds ps
 | [],_,_,_,_,h,_=>by
  obtain ⟨rfl,rfl,rfl⟩:=trodAll_nil h
  exact rfl
 | t::ts,_,_,_,ht,h,hl=>by
  obtain ⟨v,vs,d,ds,p,q,rfl,rfl,rfl,hd,hr⟩:=trodAll_cons h;exact ⟨p,q,Below.trod laidOutE (ht t (by simp)).1 (ht t (by simp)).2 hd hb (fun x hx=>hl x (by simp [hx])),stays hb (fun t h=>ht t (by simp [h])) hr (fun x hx=>hl x (by simp [hx])),rfl⟩
set_option maxRecDepth 100000 in
theorem law_lifted0 {os:Os} (started:os.Started) {f:FuncId} {fn:Func} {s:ChangeSpec} {H:Type} {enc:TypeId×Value→H} {conds:List PathCond}
  (noInit:Try.prog.inits.idxOf? f=none) (hfn:Try.prog.funcs[f]?=some fn) (hres:fn.resultTypes=#[4])
  (hpar:∀t∈fn.params.toList,Try.prog.readableRec t=true∧t<Try.prog.types.size)
  (hvars:s.vars=[])
  (hs:∀ds:List (DataW H),ds.length=fn.params.size→s.fn H ds={results:=[.lit (.bool true)],args:=ds})
  (witness:∃(w:World) (tape:Tape) (i:Input),w.os=os∧(w.forCall tape i).Shaped Try.checked.prog∧i.vars=[]∧Input.okWide Try.checked.prog (w.forCall tape i) .any w.heap.size f i∧
   s.pre6 enc Try.checked.prog fn conds false (w.forCall tape i).memory i.args∧({}:Assume).holds Try.checked.prog (lone (Frame.enter Try.checked.prog f i.args .normal) [] (w.forCall tape i)))
  (contract:∀(W:World) (base:Nat) (args:Array Value) (ds:List (DataW H)) (p:List MemPlace),
   (∀(j:Nat) t v,fn.params[j]?=some t→args[j]?=some v→Value.okWide Try.prog W .any base t v)→
   DataW.TrodAll enc Try.prog W 0 (fun _=>true) true fn.params.toList args.toList ds p→Ret Try.prog f args.toList W (fun v w'=>v=.bool true∧Ext W w')) :
  ReturnsInHanded {} Try.checked os f .any (s.pre6 enc Try.prog fn conds false) (s.post enc Try.prog fn false true false false):=by
 refine returnsInHanded_of_change (C:=Try.checked) ownE started noInit hfn witness ?_;intro W base args ds gs before hval0 hW hcnd _;have hval:∀(j:Nat) t v,fn.params[j]?=some t→args[j]?=some v→Value.okWide Try.prog W .any base t v:=hval0;have hW':=hW;obtain ⟨p,q,hA0,hV,rfl,hfz,hnd⟩:=hW';have hA:DataW.TrodAll enc Try.prog W 0 (fun _=>true) true fn.params.toList args.toList ds p:=hA0;rw [hvars] at hV;obtain ⟨rfl,rfl⟩:=trodVars_none hV;have hlt:∀x∈p,x.block<W.heap.size:=fun x hx=>hW.lt x (by simp [hx]);have hds:ds.length=fn.params.size:=by
  have:∀{ts:List TypeId} {vs:List Value} {ds:List (DataW H)} {ps:List MemPlace},DataW.TrodAll enc Try.prog W 0 (fun _=>true) true ts vs ds ps→ds.length=ts.length:=by
   intro ts
   induction ts with
   | nil=>intro vs ds ps h;obtain ⟨rfl,rfl,rfl⟩:=trodAll_nil h;rfl
   | cons t ts ih=>intro vs ds ps h;obtain ⟨v,vs,d,ds,p,q,rfl,rfl,rfl,hd,hr⟩:=trodAll_cons h;simp [ih hr]
  simpa using this hA
 have e1:s.fn H (ds++[])={results:=[.lit (.bool true)],args:=ds}:=by rw [List.append_nil];exact hs ds hds
 refine (contract W base args ds p hval hA).2.mono fun e W' he=>?_;obtain ⟨v,rfl,rfl,hE⟩:=he;refine ⟨_,rfl,ds,[],p++[],[],p,[],hW,?_,?_,?_,?_,fun h=>by cases h⟩
 ·rw [e1,hres];exact trodAll_mk1 (shut_bool Try.underlying4 true)
 ·rw [e1];exact stays (Ext.toBelow hE) hpar hA hlt
 ·rw [e1,hvars];rfl
 ·exact (Ext.toBelow hE).frame _
end Go.Proofs.Ytabjahlbcoigcaa
