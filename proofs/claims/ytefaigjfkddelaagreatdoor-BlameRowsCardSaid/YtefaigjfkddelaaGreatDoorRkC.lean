/-
  Joined by program out of the texts TreeP ShowP ShowQ ShowR ShowS ShowT NodesM ShowU.
-/
import Derived.Test.YtefaigjfkddelaaGreatDoorRkB
import Derived.Test.YtefaigjfkddelaaGreatDoorRkE
namespace Go.Proofs.YtefaigjfkddelaaGreatDoor
open Go Go.E
def BH (T:List An):Nat→DE→Bv→Option Ho
 | 0,_,_=>none
 | n+1,.lev k,s=>match BH T n (below k) s with
  | some (.ok s1 a)=>BH T n (.loop k a) s1
  | some (.err e)=>some (.err e)
  | none=>none
 | n+1,.loop k a,s=>match Gf T s k with
  | none=>some (.ok s a)
  | some i=>match BH T n (below k) (Ai s) with
   | some (.ok s1 b)=>BH T n (.loop k s1.out.length) (Bs s1 {kind:=(As k).getD i 0,kids:=[(a:Int),(b:Int)]})
   | some (.err e)=>some (.err e)
   | none=>none
 | n+1,.unary,s=>if BA T s [45]=true then (if 12≤s.deep then some (.err 6) else match BH T n .unary (Au (Ai s)) with
   | some (.ok s1 a)=>some (.ok (Bs (B0 s1) {kind:=8,kids:=[(a:Int)]}) s1.out.length)
   | some (.err e)=>some (.err e)
   | none=>none) else BH T n .prim s
 | n+1,.prim,s=>
  if (Aa T s).kind=5 then
   if BA T s [40]=true then (if 12≤s.deep then some (.err 6) else match BH T n (.lev 0) (Au (Ai s)) with
    | some (.ok s1 a)=>if BA T s1 [41]=true then some (.ok (B0 (Ai s1)) a) else some (.err 5)
    | some (.err e)=>some (.err e)
    | none=>none)
   else some (.err 5)
  else if (Aa T s).kind=0 then some (.err 5)
  else if (Aa T s).kind=1 then some (.ok (Bs (Ai s) {kind:=1,num:=(Aa T s).num}) s.out.length)
  else if (Aa T s).kind=2 then some (.ok (Bs (Ai s) {kind:=2,text:=(Aa T s).text}) s.out.length)
  else if (Aa T s).kind=6 then some (.ok (Bs (Ai s) {kind:=4}) s.out.length)
  else if (Aa T s).kind=4 then
   if BA T (Ai s) [58]=true then
    if (Aa T (Ai (Ai s))).kind=4∧Bq (Aa T s).ref (Aa T (Ai (Ai s))).ref=true then some (.ok (Bs (Ai (Ai (Ai s))) {kind:=6,ref:=(Aa T s).ref,to:=(Aa T (Ai (Ai s))).ref}) s.out.length)
    else some (.err 5)
   else some (.ok (Bs (Ai s) {kind:=5,ref:=(Aa T s).ref}) s.out.length)
  else if (Aa T s).kind=3 then
   if (Aa T s).text=CK then some (.ok (Bs (Ai s) {kind:=3,num:=1}) s.out.length)
   else if (Aa T s).text=C4 then some (.ok (Bs (Ai s) {kind:=3}) s.out.length)
   else if BA T (Ai s) [40]=true then
    if 12≤s.deep then some (.err 6)
    else if BA T (Au (Ai (Ai s))) [41]=true then some (.ok (Bs (B0 (Ai (Au (Ai (Ai s))))) {kind:=7,text:=(Aa T s).text}) s.out.length)
    else BH T n (.args (Aa T s).text []) (Au (Ai (Ai s)))
   else some (.err 5)
  else none
 | n+1,.args x ks,s=>match BH T n (.lev 0) s with
  | some (.ok s1 a)=>if BA T s1 [44]=true then BH T n (.args x (ks++[(a:Int)])) (Ai s1)
   else if BA T s1 [41]=true then some (.ok (Bs (B0 (Ai s1)) {kind:=7,text:=x,kids:=ks++[(a:Int)]}) s1.out.length)
   else some (.err 5)
  | some (.err e)=>some (.err e)
  | none=>none
theorem OC {T:List An} {s:Bv} {x:List UInt8} (h:BA T s x=true):(Aa T s).kind=5:=by
 simp [BA] at h;exact h.1
theorem WK {T:List An} {s:Bv} {x:List UInt8} (h2:(Aa T s).text≠x):BA T s x=false:=by
 simp [BA,h2]
theorem PE.eval {T:List An} {m:DE} {s:Bv} {r:Ho} (h:PE T m s r):∃N,∀n,N≤n→BH T n m s=some r:=by
 induction h with
 | lev_err _ ih=>
  obtain ⟨N,ih⟩:=ih;refine ⟨N+1,λn hn=>?_⟩;obtain ⟨n,rfl⟩:∃k,n=k+1:=⟨n - 1,by omega⟩
  simp only [BH,ih n (by omega)]
 | lev_ok _ _ ih1 ih2=>
  obtain ⟨N,ih1⟩:=ih1;obtain ⟨M,ih2⟩:=ih2;refine ⟨N+M+1,λn hn=>?_⟩;obtain ⟨n,rfl⟩:∃k,n=k+1:=⟨n - 1,by omega⟩
  simp only [BH,ih1 n (by omega),ih2 n (by omega)]
 | loop_end h=>
  refine ⟨1,λn hn=>?_⟩;obtain ⟨n,rfl⟩:∃k,n=k+1:=⟨n - 1,by omega⟩
  simp only [BH,h]
 | loop_err h _ ih=>
  obtain ⟨N,ih⟩:=ih;refine ⟨N+1,λn hn=>?_⟩;obtain ⟨n,rfl⟩:∃k,n=k+1:=⟨n - 1,by omega⟩
  simp only [BH,h,ih n (by omega)]
 | loop_go h _ _ ih1 ih2=>
  obtain ⟨N,ih1⟩:=ih1;obtain ⟨M,ih2⟩:=ih2;refine ⟨N+M+1,λn hn=>?_⟩;obtain ⟨n,rfl⟩:∃k,n=k+1:=⟨n - 1,by omega⟩
  simp only [BH,h,ih1 n (by omega),ih2 n (by omega)]
 | un_prim h _ ih=>
  obtain ⟨N,ih⟩:=ih;refine ⟨N+1,λn hn=>?_⟩;obtain ⟨n,rfl⟩:∃k,n=k+1:=⟨n - 1,by omega⟩
  simp only [BH,h,ih n (by omega),Bool.false_eq_true,if_false]
 | un_deep h hd=>
  refine ⟨1,λn hn=>?_⟩;obtain ⟨n,rfl⟩:∃k,n=k+1:=⟨n - 1,by omega⟩
  simp only [BH,h,hd,if_true]
 | un_err h hd _ ih=>
  obtain ⟨N,ih⟩:=ih;refine ⟨N+1,λn hn=>?_⟩;obtain ⟨n,rfl⟩:∃k,n=k+1:=⟨n - 1,by omega⟩
  simp only [BH,h,ih n (by omega),if_true,Nat.not_le.2 hd,if_false]
 | un_ok h hd _ ih=>
  obtain ⟨N,ih⟩:=ih;refine ⟨N+1,λn hn=>?_⟩;obtain ⟨n,rfl⟩:∃k,n=k+1:=⟨n - 1,by omega⟩
  simp only [BH,h,ih n (by omega),if_true,Nat.not_le.2 hd,if_false]
 | pr_sign h h2=>
  refine ⟨1,λn hn=>?_⟩;obtain ⟨n,rfl⟩:∃k,n=k+1:=⟨n - 1,by omega⟩
  simp only [BH,h,if_true,WK h2,Bool.false_eq_true,if_false]
 | pr_deep h hd=>
  refine ⟨1,λn hn=>?_⟩;obtain ⟨n,rfl⟩:∃k,n=k+1:=⟨n - 1,by omega⟩
  simp only [BH,OC h,h,hd,if_true]
 | pr_err h hd _ ih=>
  obtain ⟨N,ih⟩:=ih;refine ⟨N+1,λn hn=>?_⟩;obtain ⟨n,rfl⟩:∃k,n=k+1:=⟨n - 1,by omega⟩
  simp only [BH,OC h,h,ih n (by omega),if_true,Nat.not_le.2 hd,if_false]
 | pr_open h hd _ h2 ih=>
  obtain ⟨N,ih⟩:=ih;refine ⟨N+1,λn hn=>?_⟩;obtain ⟨n,rfl⟩:∃k,n=k+1:=⟨n - 1,by omega⟩
  simp only [BH,OC h,h,ih n (by omega),if_true,Nat.not_le.2 hd,if_false,h2,Bool.false_eq_true]
 | pr_ok h hd _ h2 ih=>
  obtain ⟨N,ih⟩:=ih;refine ⟨N+1,λn hn=>?_⟩;obtain ⟨n,rfl⟩:∃k,n=k+1:=⟨n - 1,by omega⟩
  simp only [BH,OC h,h,ih n (by omega),if_true,Nat.not_le.2 hd,if_false,h2]
 | pr_end h | pr_num h | pr_text h | pr_dead h=>
  refine ⟨1,λn hn=>?_⟩;obtain ⟨n,rfl⟩:∃k,n=k+1:=⟨n - 1,by omega⟩
  simp [BH,h]
 | pr_ref h h2 | pr_true h h2 | pr_false h h2=>
  refine ⟨1,λn hn=>?_⟩;obtain ⟨n,rfl⟩:∃k,n=k+1:=⟨n - 1,by omega⟩
  simp [BH,h,h2,CK,C4]
 | pr_norange h h2 h3=>
  refine ⟨1,λn hn=>?_⟩;obtain ⟨n,rfl⟩:∃k,n=k+1:=⟨n - 1,by omega⟩;have h4:¬((Aa T (Ai (Ai _))).kind=4∧Bq (Aa T _).ref (Aa T (Ai (Ai _))).ref=true):=λhh=>by
   rcases h3 with h3 | h3
   ·exact h3 hh.1
   ·rw [hh.2] at h3;cases h3
  simp only [BH,h,h2,if_neg h4]
  rfl
 | pr_range h h2 h3 h4=>
  refine ⟨1,λn hn=>?_⟩;obtain ⟨n,rfl⟩:∃k,n=k+1:=⟨n - 1,by omega⟩
  simp [BH,h,h2,h3,h4]
 | pr_nocall h h2 h3 h4=>
  refine ⟨1,λn hn=>?_⟩;obtain ⟨n,rfl⟩:∃k,n=k+1:=⟨n - 1,by omega⟩
  simp [BH,h,h2,h3,h4]
 | pr_calldeep h h2 h3 h4 h5=>
  refine ⟨1,λn hn=>?_⟩;obtain ⟨n,rfl⟩:∃k,n=k+1:=⟨n - 1,by omega⟩
  simp [BH,h,h2,h3,h4,h5]
 | pr_call0 h h2 h3 h4 h5 h6=>
  refine ⟨1,λn hn=>?_⟩;obtain ⟨n,rfl⟩:∃k,n=k+1:=⟨n - 1,by omega⟩
  simp [BH,h,h2,h3,h4,Nat.not_le.2 h5,h6]
 | pr_call h h2 h3 h4 h5 h6 _ ih=>
  obtain ⟨N,ih⟩:=ih;refine ⟨N+1,λn hn=>?_⟩;obtain ⟨n,rfl⟩:∃k,n=k+1:=⟨n - 1,by omega⟩;have:=ih n (by omega)
  simp [BH,h,h2,h3,h4,Nat.not_le.2 h5,h6,this]
 | ar_err _ ih=>
  obtain ⟨N,ih⟩:=ih;refine ⟨N+1,λn hn=>?_⟩;obtain ⟨n,rfl⟩:∃k,n=k+1:=⟨n - 1,by omega⟩
  simp only [BH,ih n (by omega)]
 | ar_go _ h _ ih1 ih2=>
  obtain ⟨N,ih1⟩:=ih1;obtain ⟨M,ih2⟩:=ih2;refine ⟨N+M+1,λn hn=>?_⟩;obtain ⟨n,rfl⟩:∃k,n=k+1:=⟨n - 1,by omega⟩
  simp only [BH,ih1 n (by omega),h,if_true,ih2 n (by omega)]
 | ar_open _ h h2 ih=>
  obtain ⟨N,ih⟩:=ih;refine ⟨N+1,λn hn=>?_⟩;obtain ⟨n,rfl⟩:∃k,n=k+1:=⟨n - 1,by omega⟩
  simp only [BH,ih n (by omega),h,h2,Bool.false_eq_true,if_false]
 | ar_end _ h h2 ih=>
  obtain ⟨N,ih⟩:=ih;refine ⟨N+1,λn hn=>?_⟩;obtain ⟨n,rfl⟩:∃k,n=k+1:=⟨n - 1,by omega⟩;simp only [BH,ih n (by omega),h,h2,Bool.false_eq_true,if_false,if_true]
theorem PE.det {T:List An} {m:DE} {s:Bv} {r r':Ho} (h:PE T m s r) (h':PE T m s r'):r=r':=by
 obtain ⟨N,h⟩:=h.eval;obtain ⟨M,h'⟩:=h'.eval;have:=(h (N+M) (by omega)).symm.trans (h' (N+M) (by omega))
 simpa using this
theorem D8.det {T:List An} {o o':Except Int (List Ag)} (h:D8 T o) (h':D8 T o'):o=o':=by
 unfold D8 at h h'
 split at h<;>split at h'
 ·rcases h with h | ⟨rfl,s,a,h,hk⟩<;>rcases h' with h' | ⟨rfl,s',a',h',a0⟩
  ·have:=h.det h';simp only [Ho.err.injEq] at this;rw [this]
  ·cases h.det h'
  ·cases h.det h'
  ·rfl
 ·obtain ⟨s',a',h',a0,rfl⟩:=h';rcases h with h | ⟨rfl,s,a,h,hk⟩
  ·cases h.det h'
  ·have:=h.det h';simp only [Ho.ok.injEq] at this;obtain ⟨rfl,rfl⟩:=this;exact absurd a0 hk
 ·obtain ⟨s,a,h,hk,rfl⟩:=h;rcases h' with h' | ⟨rfl,s',a',h',a0⟩
  ·cases h.det h'
  ·have:=h.det h';simp only [Ho.ok.injEq] at this;obtain ⟨rfl,rfl⟩:=this;exact absurd hk a0
 ·obtain ⟨s,a,h,hk,rfl⟩:=h;obtain ⟨s',a',h',a0,rfl⟩:=h';have:=h.det h';simp only [Ho.ok.injEq] at this;rw [this.1]
structure Jd (t:An):Prop where
 num:t.kind=1→0≤t.num
 text:t.kind=2→KE t.text=true
 word:t.kind=3→JN t.text=true∧AZ t.text=false
 ref:t.kind=4→AP t.ref=true
 len:t.text.length≤1000
theorem Qq {c:UInt8} {l:List UInt8} (hc:¬c<32) (h:KE l=true):KE (c::l)=true:=by
 simp only [KE,decide_eq_true_eq] at h ⊢;intro j hj
 cases j with
 | zero=>
  show 32≤(c.toNat:Int);have:¬c.toNat<32:=λhh=>hc (UInt8.lt_iff_toNat_lt.2 (by simpa using hh))
  omega
 | succ j=>exact h j (by simpa using hj)
theorem L2:∀(l:List UInt8) {x:List UInt8×Nat},AY l=some x→KE x.1=true∧x.1.length≤l.length
 | [],x,h=>by simp [AY] at h
 | [c],x,h=>by
  simp only [AY] at h
  split at h
  ·simp only [Option.some.injEq] at h;subst h;exact ⟨rfl,by simp⟩
  ·cases h
 | c::d::r,x,h=>by
  simp only [AY] at h
  split at h
  ·split at h
   ·cases e:AY r with
    | none=>rw [e] at h;cases h
    | some y=>
     rw [e] at h;simp only [Option.map_some,Option.some.injEq] at h;have:=L2 r e;subst h;exact ⟨Qq (by decide) this.1,by simp;omega⟩
   ·simp only [Option.some.injEq] at h;subst h;exact ⟨rfl,by simp⟩
  ·split at h
   ·cases h
   ·rename_i hc
    cases e:AY (d::r) with
    | none=>rw [e] at h;cases h
    | some y=>
     rw [e] at h;simp only [Option.map_some,Option.some.injEq] at h;have:=L2 (d::r) e;subst h;exact ⟨Qq hc this.1,by have:=this.2;simp at this ⊢;omega⟩
theorem R2 {s:List UInt8} (h:AZ s=true):AP (Di s)=true:=by
 simp only [AZ,Bool.and_eq_true,decide_eq_true_eq,Bool.not_eq_true',decide_eq_false_iff_not] at h
 cases hm:AP (Di s) with
 | true=>rfl
 | false=>
  have:=h.1.2;rw [Cd,hm] at this;exact absurd this.symm h.2
theorem Wd {l:List UInt8} {t:An} {k:Nat} (hl:l.length≤1000) (h:Cj l=some (t,k)):Jd t:=by
 unfold Cj at h
 split at h
 ·rename_i h0;have a0:Ah Al l≠[]:=by
   have:=(HL (p:=Al) (l:=l) (by
    cases l with
    | nil=>cases h0
    | cons a b=>simp) h0).1
   exact List.length_pos_iff.1 this
  rw [J4 a0] at h
  split at h
  ·simp only [Option.some.injEq,Prod.mk.injEq] at h;rw [←h.1];exact ⟨λ_=>(Gw _ (λj hj=>by
   have hh:=G8 Al l _ (List.getElem_mem hj)
   simpa [Ab,List.getD_eq_getElem?_getD,List.getElem?_eq_getElem hj] using hh)).1,by simp,by simp,by simp,by simp⟩
  ·cases h
 ·split at h
  ·unfold El at h
   cases e:AY (l.drop 1) with
   | none=>rw [e] at h;cases h
   | some x=>
    rw [e] at h;simp only [Option.map_some,Option.some.injEq,Prod.mk.injEq] at h;have:=L2 _ e;rw [←h.1];exact ⟨by simp,λ_=>this.1,by simp,by simp,by have:=this.2;simp at this ⊢;omega⟩
  ·split at h
   ·unfold DP at h;simp only at h;have a1:=Ei D3 l
    split at h
    ·rename_i hr;simp only [Option.some.injEq,Prod.mk.injEq] at h;rw [←h.1];exact ⟨by simp,by simp,by simp,λ_=>R2 hr,by simp⟩
    ·rename_i hr
     split at h
     ·rename_i hf;simp only [Option.some.injEq,Prod.mk.injEq] at h;rw [←h.1];exact ⟨by simp,by simp,λ_=>⟨hf,by simpa using hr⟩,by simp,by show (Ah D3 l).length≤1000;omega⟩
     ·cases h
   ·unfold EL at h
    split at h
    ·simp only [Option.some.injEq,Prod.mk.injEq] at h;rw [←h.1];exact ⟨by simp,by simp,by simp,by simp,by simp⟩
    ·cases e:Bf.find? λs=>Lib.hasPrefix l s with
     | none=>rw [e] at h;cases h
     | some x=>
      rw [e] at h;simp only [Option.map_some,Option.some.injEq,Prod.mk.injEq] at h;have:=Kn (List.find?_some e);rw [←h.1];exact ⟨by simp,by simp,by simp,by simp,by show x.length≤1000;omega⟩
theorem Om (a:Int):Jd ⟨0,[],0,A3,a⟩:=⟨by simp,by simp,by simp,by simp,by simp⟩
theorem Sr:∀(n:Nat) (l:List UInt8) (a:Nat) {out:List An},l.length≤n→l.length≤1000→F5 l a=some out→∀t∈out,Jd t
 | n,l,a,out,hn,hl,h=>by
  cases e:l.drop (Ah Ff l).length with
  | nil=>
   rw [EB e] at h;simp only [Option.some.injEq] at h;subst h;intro t ht;rw [List.mem_singleton.1 ht]
   exact Om _
  | cons c r=>
   have hl':=congrArg List.length e;simp at hl'
   cases ho:Cj (c::r) with
   | none=>rw [F6 e (by simp) ho] at h;cases h
   | some x=>
    obtain ⟨t,k⟩:=x;have hk:=ED (by simp) ho;have hok:=Wd (by simp;omega) ho;rw [FQ e (by simp) ho hk] at h
    cases hr:F5 ((c::r).drop k) (a+(Ah Ff l).length+k) with
    | none=>rw [hr] at h;cases h
    | some y=>
     rw [hr] at h;simp only [Option.map_some,Option.some.injEq] at h;subst h
     match n with
     | 0=>omega
     | n+1=>
      have hd:((c::r).drop k).length=r.length+1 - k:=by simp
      have:=Sr n ((c::r).drop k) _ (by rw [hd];omega) (by rw [hd];omega) hr;intro t' ht;rcases List.mem_cons.1 ht with rfl | ht
      ·exact ⟨hok.num,hok.text,hok.word,hok.ref,hok.len⟩
      ·exact this t' ht
theorem VY {s:List UInt8} {T:List An} (hs:s.length≤1000) (h:Hj s=some T):∀t∈T,Jd t:=Sr _ s 0 (Nat.le_refl _) hs h
theorem FF {T:List An} (h:∀t∈T,Jd t) (s:Bv):Jd (Aa T s):=by
 unfold Aa;rcases Nat.lt_or_ge s.at_ T.length with hl | hl
 ·rw [List.getD_eq_getElem?_getD,List.getElem?_eq_getElem hl];exact h _ (List.getElem_mem hl)
 ·rw [List.getD_eq_getElem?_getD,List.getElem?_eq_none hl];exact Om 0
theorem DD:∀(l m:List Ag) (i:Nat) (st:List Int),Bn i st (l++m)=(Bn i st l).bind λst'=>Bn (i+l.length) st' m
 | [],m,i,st=>by simp [Bn]
 | n::t,m,i,st=>by
  rw [List.cons_append,Bn,Bn]
  cases CV i st n with
  | none=>rfl
  | some st'=>
   simp only;rw [DD t m (i+1) st',List.length_cons,show i+1+t.length=i+(t.length+1) by omega]
theorem HN {l:List Ag} {i:Nat} {st st' ks:List Int} {n:Ag} (h:Bn i st l=some (st'++ks)) (hk:n.kids=ks) (hc:EQ n=n.kids.length) (hp:Ar n=true):Bn i st (l++[n])=some (st'++[((i+l.length:Nat):Int)]):=by
 subst hk;rw [DD,h];simp only [Option.bind_some,Bn,CV];have e:(st'++n.kids).length - n.kids.length=st'.length:=by simp
 rw [e,if_pos ⟨hc,by simp,by simp,hp⟩];simp
theorem C7 {n:Ag} (h:Fb n=true) (hb:(A6 n).num=0∧(A6 n).text=[]∧(A6 n).ref=A3∧(A6 n).to=A3):Ar n=true:=by
 simp [Ar,h,hb]
def FJ (s s1:Bv) (ks:List Int) (a:Nat):Prop:=
 ∃new,s1.out=s.out++new∧D5 new∧∀st,Bn s.out.length (st++ks) new=some (st++[(a:Int)])
theorem FJ.same {s s1 s2 s3:Bv} {ks:List Int} {a:Nat} (h:FJ s s1 ks a) (e1:s2.out=s.out) (e2:s3.out=s1.out):FJ s2 s3 ks a:=by
 obtain ⟨new,h1,h2,h3⟩:=h;exact ⟨new,by rw [e2,e1,h1],h2,by rw [e1];exact h3⟩
theorem Oh {l m:List Ag} (h:D5 l) (k:D5 m):D5 (l++m):=λn hn=>by
 rcases List.mem_append.1 hn with hn | hn
 ·exact h n hn
 ·exact k n hn
theorem FJ.nil (s s1:Bv) (a:Nat) (e:s1.out=s.out):FJ s s1 [(a:Int)] a:=⟨[],by simp [e],(λn hn=>by cases hn),λst=>by simp [Bn]⟩
theorem FJ.trans {s s1 s2:Bv} {ks:List Int} {a b:Nat} (h:FJ s s1 ks a) (k:FJ s1 s2 [(a:Int)] b):FJ s s2 ks b:=by
 obtain ⟨n1,e1,p1,t1⟩:=h;obtain ⟨n2,e2,p2,t2⟩:=k;refine ⟨n1++n2,by rw [e2,e1,List.append_assoc],Oh p1 p2,λst=>?_⟩;rw [DD,t1];simp only [Option.bind_some];have:=t2 st;rw [e1,List.length_append] at this;exact this
theorem FJ.more {s s1 s2:Bv} {ks ks1:List Int} {a b:Nat} (h:FJ s s1 ks a) (k:FJ s1 s2 (ks1++[(a:Int)]) b):FJ s s2 (ks1++ks) b:=by
 obtain ⟨n1,e1,p1,t1⟩:=h;obtain ⟨n2,e2,p2,t2⟩:=k;refine ⟨n1++n2,by rw [e2,e1,List.append_assoc],Oh p1 p2,λst=>?_⟩;rw [DD,←List.append_assoc,t1];simp only [Option.bind_some];have:=t2 st;rw [e1,List.length_append] at this;rw [List.append_assoc];exact this
theorem FJ.node {s s2 s3:Bv} {n:Ag} {ks:List Int} (hk:n.kids=ks) (hc:EQ n=n.kids.length) (hp:Ar n=true) (hs:n.text.length≤1000∧n.ref.sheet.length≤1000∧n.to.sheet.length≤1000) (e:s3.out=s.out++[n]) (e2:s2.out=s.out):FJ s2 s3 ks s.out.length:=by
 refine ⟨[n],by rw [e,e2],λx hx=>by rw [List.mem_singleton.1 hx];exact hs,λst=>?_⟩;have:=HN (l:=[]) (i:=s2.out.length) (st:=st++ks) (st':=st) (ks:=ks) rfl hk hc hp
 simpa [e2] using this
theorem FU {x:Co} (h:AP x=true):x.sheet.length≤1000:=by
 simp only [AP,Bool.and_eq_true,Bool.or_eq_true,decide_eq_true_eq] at h;rcases h.1.1.1.1 with h | h
 ·rw [h];simp
 ·simp only [DJ,Bool.and_eq_true,decide_eq_true_eq] at h;omega
theorem Bb:A3.sheet.length≤1000:=by decide
def Xj (m:DE) (s:Bv):Ho→Prop
 | .err _=>True
 | .ok s1 b=>match m with
  | .loop _ a=>FJ s s1 [(a:Int)] b
  | .args x ks=>Cu x=true→FJ s s1 ks b
  | _=>FJ s s1 [] b
theorem MK {n:Nat} {s s1:Bv} {a:Nat} (h:Xj (below n) s (.ok s1 a)):FJ s s1 [] a:=by
 unfold below at h
 split at h<;>exact h
theorem Tt {T:List An} {s:Bv} {n i:Nat} (h:Gf T s n=some i):9≤(As n).getD i 0∧(As n).getD i 0≤19:=by
 unfold Gf at h
 split at h
 ·have hi:=(List.findIdx?_eq_some_iff_getElem.1 h).1;have e:(A8 n).length=(As n).length:=by
   unfold A8 As
   match n with
   | 0=>rfl
   | 1=>rfl
   | 2=>rfl
   | _+3=>rfl
  have a0:∀z∈As n,9≤z∧z≤19:=by
   unfold As
   match n with
   | 0=>decide
   | 1=>decide
   | 2=>decide
   | _+3=>
    show ∀z∈[18,19],(9:Int)≤z∧z≤19
    decide
  rw [List.getD_eq_getElem?_getD,List.getElem?_eq_getElem (by omega)];exact a0 _ (List.getElem_mem _)
 ·cases h
theorem Nk {k:Int} (h0:9≤k) (h1:k≤19) (a b:Int):EQ {kind:=k,kids:=[a,b]}=2∧Ar {kind:=k,kids:=[a,b]}=true:=by
 have hc:B7 k=2:=by
  unfold B7;rw [if_neg (by omega),if_neg (by omega),if_neg (by omega),if_pos (by omega)]
 constructor
 ·simp [EQ,hc]
 ·have hb:A6 {kind:=k,kids:=[a,b]}={kind:=k,kids:=[a,b]}:=by
   unfold A6;rw [if_neg (show ¬k=1 by omega),if_neg (show ¬k=3 by omega),if_neg (show ¬k=2 by omega),if_neg (show ¬k=7 by omega),if_neg (show ¬k=5 by omega),if_neg (show ¬k=6 by omega)]
  have ho:Fb {kind:=k,kids:=[a,b]}=true:=by
   unfold Fb;rw [if_neg (show ¬k=1 by omega),if_neg (show ¬k=3 by omega),if_neg (show ¬k=2 by omega),if_neg (show ¬k=7 by omega),if_neg (show ¬k=5 by omega),if_neg (show ¬k=6 by omega)]
  exact C7 ho (by rw [hb];exact ⟨rfl,rfl,rfl,rfl⟩)
theorem HU {x:List UInt8} (h:Cu x=true) (ks:List Int):EQ {kind:=7,text:=x,kids:=ks}=ks.length∧Ar {kind:=7,text:=x,kids:=ks}=true:=by
 refine ⟨if_pos rfl,C7 h ⟨rfl,rfl,rfl,rfl⟩⟩
theorem M6 {x:List UInt8} (h:Cu x=true):x.length≤1000:=by
 simp only [Cu,JN,Bool.and_eq_true,decide_eq_true_eq] at h;omega
theorem Ou {T:List An} (hT:∀t∈T,Jd t) {s:Bv} (h:(Aa T s).kind=3) (h1:(Aa T s).text≠CK) (h2:(Aa T s).text≠C4):Cu (Aa T s).text=true:=by
 have:=(FF hT s).word h;simp [Cu,this,h1,h2]
theorem PE.puts {T:List An} (hT:∀t∈T,Jd t) {m:DE} {s:Bv} {r:Ho} (h:PE T m s r):Xj m s r:=by
 induction h with
 | lev_err _ _=>trivial
 | @lev_ok n s s1 a r _ _ ih1 ih2=>
  cases r with
  | err e=>trivial
  | ok s2 b=>exact (MK ih1).trans ih2
 | loop_end _=>exact FJ.nil _ _ _ rfl
 | loop_err _ _ _=>trivial
 | @loop_go n s a i s1 b r hi _ _ ih1 ih2=>
  cases r with
  | err e=>trivial
  | ok s2 c=>
   obtain ⟨k0,k1⟩:=Tt hi;have hn:=Nk k0 k1 (a:Int) (b:Int);have hp:FJ s1 (Bs s1 {kind:=(As n).getD i 0,kids:=[(a:Int),(b:Int)]}) ([(a:Int)]++[(b:Int)]) s1.out.length:=FJ.node (s:=s1) rfl hn.1 hn.2 ⟨by simp,Bb,Bb⟩ rfl rfl;have h1:FJ s s1 [] b:=(MK ih1).same rfl rfl;have:=h1.more hp
   exact this.trans ih2
 | @un_prim s r _ _ ih=>
  cases r with
  | err e=>trivial
  | ok s2 b=>exact ih
 | un_deep _ _=>trivial
 | un_err _ _ _ _=>trivial
 | @un_ok s s1 a _ _ _ ih=>
  have h1:FJ s s1 [] a:=FJ.same ih rfl rfl;have hp:FJ s1 (Bs (B0 s1) {kind:=8,kids:=[(a:Int)]}) ([]++[(a:Int)]) s1.out.length:=FJ.node (s:=s1) rfl rfl rfl ⟨by simp,Bb,Bb⟩ rfl rfl
  exact h1.more hp
 | pr_sign _ _=>trivial
 | pr_deep _ _=>trivial
 | pr_err _ _ _ _=>trivial
 | pr_open _ _ _ _ _=>trivial
 | pr_ok _ _ _ _ ih=>exact FJ.same ih rfl rfl
 | pr_end _=>trivial
 | @pr_num s h=>
  have h0:=(FF hT s).num h
  exact FJ.node (s:=s) rfl rfl (C7 (by show decide (0≤(Aa T s).num)=true;simpa using h0) ⟨rfl,rfl,rfl,rfl⟩) ⟨by simp,Bb,Bb⟩ rfl rfl
 | @pr_text s h=>
  exact FJ.node (s:=s) rfl rfl (C7 (by show KE (Aa T s).text=true;exact (FF hT s).text h) ⟨rfl,rfl,rfl,rfl⟩) ⟨(FF hT s).len,Bb,Bb⟩ rfl rfl
 | @pr_dead s h=>exact FJ.node (s:=s) rfl rfl rfl ⟨by simp,Bb,Bb⟩ rfl rfl
 | @pr_ref s h _=>
  have h0:=(FF hT s).ref h
  exact FJ.node (s:=s) rfl rfl (C7 (by show AP (Aa T s).ref=true;exact h0) ⟨rfl,rfl,rfl,rfl⟩) ⟨by simp,FU h0,Bb⟩ rfl rfl
 | @pr_range s h _ h' hr=>
  have h0:=(FF hT s).ref h;have h1:=(FF hT (Ai (Ai s))).ref h'
  exact FJ.node (s:=s) rfl rfl (C7 (by show (AP (Aa T s).ref&&(AP (Aa T (Ai (Ai s))).ref&&Bq (Aa T s).ref (Aa T (Ai (Ai s))).ref))=true;rw [h0,h1,hr];rfl) ⟨rfl,rfl,rfl,rfl⟩) ⟨by simp,FU h0,FU h1⟩ rfl rfl
 | pr_norange _ _ _=>trivial
 | @pr_true s _ _=>exact FJ.node (s:=s) rfl rfl rfl ⟨by simp,Bb,Bb⟩ rfl rfl
 | @pr_false s _ _=>exact FJ.node (s:=s) rfl rfl rfl ⟨by simp,Bb,Bb⟩ rfl rfl
 | pr_nocall _ _ _ _=>trivial
 | pr_calldeep _ _ _ _ _=>trivial
 | @pr_call0 s h h1 h2 _ _ _=>
  have hn:=Ou hT h h1 h2;have hc:=HU hn []
  exact FJ.node (s:=s) rfl hc.1 hc.2 ⟨M6 hn,Bb,Bb⟩ rfl rfl
 | @pr_call s r h h1 h2 _ _ _ _ ih=>
  cases r with
  | err e=>trivial
  | ok s2 b=>exact FJ.same (ih (Ou hT h h1 h2)) rfl rfl
 | ar_err _ _=>trivial
 | @ar_go x ks s s1 a r _ _ _ ih1 ih2=>
  cases r with
  | err e=>trivial
  | ok s2 b=>
   intro hn;have h2:FJ s1 s2 (ks++[(a:Int)]) b:=FJ.same (ih2 hn) rfl rfl;have h1:FJ s s1 [] a:=ih1;have:=h1.more h2
   rwa [List.append_nil] at this
 | ar_open _ _ _ _=>trivial
 | @ar_end x ks s s1 a _ _ _ ih=>
  intro hn;have hc:=HU hn (ks++[(a:Int)]);have hp:FJ s1 (Bs (B0 (Ai s1)) {kind:=7,text:=x,kids:=ks++[(a:Int)]}) (ks++[(a:Int)]) s1.out.length:=FJ.node (s:=s1) rfl hc.1 hc.2 ⟨M6 hn,Bb,Bb⟩ rfl rfl;have h1:FJ s s1 [] a:=ih;have:=h1.more hp
  rwa [List.append_nil] at this
theorem D8.tree {T:List An} {l:List Ag} (hT:∀t∈T,Jd t) (h:D8 T (.ok l)):BL l=true∧D5 l:=by
 obtain ⟨s,a,hp,_,he⟩:=h;obtain ⟨new,h1,h2,h3⟩:FJ ⟨0,[],0⟩ s [] a:=hp.puts hT;have:l=new:=by rw [←he,h1];rfl
 subst this;refine ⟨?_,h2⟩;have h4:Bn 0 [] l=some [(a:Int)]:=h3 [];rw [BL,h4];rfl
def J5:List (List UInt8):=[[61],[60,62],[60],[60,61],[62],[62,61],[38],[43],[45],[42],[47]]
theorem We {u:Nat} (hu:u≤9223372036854775807) {R:List UInt8} (hR:R=[]∨Al (Ab R 0)=false):Cj (Lib.decDigits u++R)=some (⟨1,[],u,A3,0⟩,(Lib.decDigits u).length):=by
 obtain ⟨h1,h2,h3,h4,h5⟩:=Fj u u (Nat.le_refl _);have h0:Al (Ab (Lib.decDigits u++R) 0)=true:=by
  rw [Ev h2];obtain ⟨c,hm,e⟩:=D6 (List.length_pos_iff.2 h2);rw [e];exact h1 c hm
 have hs:Ah Al (Lib.decDigits u++R)=Lib.decDigits u:=by
  rw [EM Al _ R h1];have:Ah Al R=[]:=by
   rcases hR with rfl | h
   ·rfl
   ·cases R with
    | nil=>rfl
    | cons c r=>
     have:Al (c.toNat:Int)=false:=h;simp [Ah,this]
  rw [this,List.append_nil]
 have hc:((u:Nat):Int)≤9223372036854775807∧(Ab (Lib.decDigits u) 0≠48∨(Lib.decDigits u).length=1):=by
  refine ⟨by omega,?_⟩;by_cases hz:u=0
  ·exact .inr (h5 hz)
  ·exact .inl (h4 hz)
 rw [Cj,h0,if_pos rfl,J4 (by rw [hs];exact h2),hs,h3,if_pos hc]
theorem Tx {X R:List UInt8} {t:An} {a:Nat} (hX:X≠[]) (hb:Ab X 0≠32) (h1:Cj (X++R)=some (t,X.length)):F5 (X++R) a=(F5 R (a+X.length)).map ({t with at_:=(a:Int)}::·):=by
 have hs:Ah Ff (X++R)=[]:=by
  cases X with
  | nil=>exact absurd rfl hX
  | cons c r=>
   have:Ff (c.toNat:Int)=false:=by simp [Ff];exact hb
   simp [Ah,this]
 have:=FQ (l:=X++R) (l':=X++R) (a:=a) (t:=t) (k:=X.length) (by rw [hs];rfl) (by simp [hX]) h1 (List.length_pos_iff.2 hX);rw [this,hs];simp [List.drop_left']
theorem LZ (u:Nat):Al (Ab (Lib.decDigits u) 0)=true∧Lib.decDigits u≠[]∧Ab (Lib.decDigits u) 0≠32:=by
 obtain ⟨h1,h2,_⟩:=Fj u u (Nat.le_refl _);obtain ⟨c,hm,e⟩:=D6 (List.length_pos_iff.2 h2);exact ⟨by rw [e];exact h1 c hm,h2,UD h2 h1⟩
inductive Tr:Bool→Type where
 | leaf (n:Ag):Tr false
 | neg (a:Tr false):Tr false
 | two (k:Int) (a b:Tr false):Tr false
 | call (x:List UInt8) (ks:Tr true):Tr false
 | nil:Tr true
 | snoc (ks:Tr true) (a:Tr false):Tr true
def Tr.cnt:{b:Bool}→Tr b→Nat
 | _,.leaf _=>1
 | _,.neg a=>a.cnt+1
 | _,.two _ a b=>a.cnt+b.cnt+1
 | _,.call _ ks=>ks.cnt+1
 | _,.nil=>0
 | _,.snoc ks a=>ks.cnt+a.cnt
def Tr.kids (o:Nat):{b:Bool}→Tr b→List Int
 | _,.snoc ks a=>ks.kids o++[((o+ks.cnt+a.cnt - 1:Nat):Int)]
 | _,_=>[]
def Tr.flat:(o:Nat)→{b:Bool}→Tr b→List Ag
 | _,_,.leaf n=>[n]
 | o,_,.neg a=>a.flat o++[{kind:=8,kids:=[((o+a.cnt - 1:Nat):Int)]}]
 | o,_,.two k a b=>a.flat o++b.flat (o+a.cnt)++[{kind:=k,kids:=[((o+a.cnt - 1:Nat):Int),((o+a.cnt+b.cnt - 1:Nat):Int)]}]
 | o,_,.call x ks=>ks.flat o++[{kind:=7,text:=x,kids:=ks.kids o}]
 | _,_,.nil=>[]
 | o,_,.snoc ks a=>ks.flat o++a.flat (o+ks.cnt)
def Tr.Fit:{b:Bool}→Tr b→Prop
 | _,.leaf n=>1≤n.kind∧n.kind≤6∧n.kids=[]∧Ar n=true
 | _,.neg a=>a.Fit
 | _,.two k a b=>9≤k∧k≤19∧a.Fit∧b.Fit
 | _,.call x ks=>Cu x=true∧ks.Fit
 | _,.nil=>True
 | _,.snoc ks a=>ks.Fit∧a.Fit
theorem Tr.flat_len:∀{b:Bool} (t:Tr b) (o:Nat),(t.flat o).length=t.cnt
 | _,.leaf n,o=>rfl
 | _,.neg a,o=>by simp [Tr.flat,Tr.cnt,flat_len a]
 | _,.two k a b,o=>by simp [Tr.flat,Tr.cnt,flat_len a,flat_len b];omega
 | _,.call x ks,o=>by simp [Tr.flat,Tr.cnt,flat_len ks]
 | _,.nil,o=>rfl
 | _,.snoc ks a,o=>by simp [Tr.flat,Tr.cnt,flat_len ks,flat_len a]
theorem Tr.snoc_form (ts:Tr true):ts=.nil∨∃ks a,ts=.snoc ks a:=by
 cases ts with
 | nil=>exact .inl rfl
 | snoc ks a=>exact .inr ⟨ks,a,rfl⟩
theorem Tr.split (k:Nat):∀(ts:Tr true),ts.Fit→k≤(ts.kids 0).length→∃ts1 ks:Tr true,ts.flat 0=ts1.flat 0++ks.flat ts1.cnt∧ts.kids 0=ts1.kids 0++ks.kids ts1.cnt∧(ks.kids ts1.cnt).length=k∧ts.cnt=ts1.cnt+ks.cnt∧ts1.Fit∧ks.Fit:=by
 induction k with
 | zero=>exact λts hf _=>⟨ts,.nil,by simp [Tr.flat],by simp [Tr.kids],rfl,rfl,hf,trivial⟩
 | succ k ih=>
  intro ts hf hk;rcases Tr.snoc_form ts with rfl | ⟨rs,a,rfl⟩
  ·simp [Tr.kids] at hk
  ·simp only [Tr.kids,List.length_append,List.length_singleton] at hk;obtain ⟨ts1,ks,h1,h2,h3,h4,h5,h6⟩:=ih rs hf.1 (by omega);refine ⟨ts1,.snoc ks a,?_,?_,?_,?_,h5,h6,hf.2⟩
   ·simp only [Tr.flat,h1,h4,List.append_assoc,Nat.zero_add]
   ·simp only [Tr.kids,h2,h4,List.append_assoc,Nat.zero_add]
   ·simp only [Tr.kids,List.length_append,h3,List.length_singleton]
   ·simp only [Tr.cnt,h4,Nat.add_assoc]
theorem Tq {n:Ag} (h:EQ n=n.kids.length):(1≤n.kind∧n.kind≤6∧n.kids=[])∨n.kind=7∨(n.kind=8∧n.kids.length=1)∨(9≤n.kind∧n.kind≤19∧n.kids.length=2):=by
 unfold EQ B7 at h;by_cases h1:n.kind<1∨19<n.kind
 ·rw [if_pos h1,if_neg (by decide)] at h;omega
 rw [if_neg h1] at h;by_cases h2:n.kind=7
 ·exact .inr (.inl h2)
 rw [if_neg h2] at h;by_cases h3:n.kind=8
 ·rw [if_pos h3,if_neg (by decide)] at h;exact .inr (.inr (.inl ⟨h3,by omega⟩))
 rw [if_neg h3] at h;by_cases h4:8<n.kind
 ·rw [if_pos h4,if_neg (by decide)] at h;exact .inr (.inr (.inr ⟨by omega,by omega,by omega⟩))
 ·rw [if_neg h4,if_neg (by decide)] at h;exact .inl ⟨by omega,by omega,List.eq_nil_of_length_eq_zero (by omega)⟩
theorem N6 {n:Ag} (hp:Ar n=true) (hk:8≤n.kind):n={kind:=n.kind,kids:=n.kids}:=by
 simp only [Ar,Bool.and_eq_true,decide_eq_true_eq] at hp;have hb:A6 n=n:=by
  unfold A6;rw [if_neg (by omega),if_neg (by omega),if_neg (by omega),if_neg (by omega),if_neg (by omega),if_neg (by omega)]
 rw [hb] at hp;obtain ⟨_,h1,h2,h3,h4⟩:=hp;cases n;simp_all
theorem SZ {n:Ag} (hp:Ar n=true) (hk:n.kind=7):n={kind:=7,text:=n.text,kids:=n.kids}∧Cu n.text=true:=by
 simp only [Ar,Bool.and_eq_true,decide_eq_true_eq] at hp;have hb:A6 n={n with text:=[]}:=by
  unfold A6;rw [if_neg (by omega),if_neg (by omega),if_neg (by omega),if_pos hk]
 have ho:Fb n=Cu n.text:=by
  unfold Fb;rw [if_neg (by omega),if_neg (by omega),if_neg (by omega),if_pos hk]
 rw [hb,ho] at hp;obtain ⟨h0,h1,h2,h3,h4⟩:=hp;refine ⟨?_,h0⟩;cases n;simp_all
theorem Wo {α:Type} {p:List α→Prop} (h0:p []) (h1:∀l a,p l→p (l++[a])):∀l,p l:=by
 intro l;have:∀(n:Nat) (l:List α),l.length=n→p l:=by
  intro n
  induction n with
  | zero=>intro l hl;rw [List.eq_nil_of_length_eq_zero hl];exact h0
  | succ n ih=>
   intro l hl;have a0:l≠[]:=by intro e;subst e;simp at hl
   rw [←List.dropLast_concat_getLast a0];exact h1 _ _ (ih _ (by simp [hl]))
 exact this _ l rfl
theorem Tk:∀(l:List Ag) (st:List Int),Bn 0 [] l=some st→∃ts:Tr true,ts.flat 0=l∧ts.kids 0=st∧ts.Fit:=by
 refine Wo ?_ ?_
 ·intro st h;simp only [Bn,Option.some.injEq] at h;exact ⟨.nil,rfl,h,trivial⟩
 ·intro l n ih st h;rw [DD] at h
  cases e:Bn 0 [] l with
  | none=>rw [e] at h;cases h
  | some s0=>
   rw [e] at h;simp only [Option.bind_some,Bn,Nat.zero_add] at h;obtain ⟨ts,hf,hk,a8⟩:=ih s0 e
   cases e2:CV l.length s0 n with
   | none=>rw [e2] at h;cases h
   | some s1=>
    rw [e2] at h;simp only [Option.some.injEq] at h;subst h;unfold CV at e2
    split at e2
    ·rename_i hc;simp only [Option.some.injEq] at e2;obtain ⟨c1,c2,c3,c4⟩:=hc;obtain ⟨ts1,ks,a1,a2,a3,a4,a5,a6⟩:=ts.split n.kids.length a8 (by rw [hk];exact c2);have a0:ks.kids ts1.cnt=n.kids:=by
      rw [←c3,←hk,a2];have:(ts1.kids 0++ks.kids ts1.cnt).length - n.kids.length=(ts1.kids 0).length:=by rw [List.length_append,a3];omega
      rw [this,List.drop_left'];rfl
     have a7:s0.take (s0.length - n.kids.length)=ts1.kids 0:=by
      rw [←hk,a2];have:(ts1.kids 0++ks.kids ts1.cnt).length - n.kids.length=(ts1.kids 0).length:=by rw [List.length_append,a3];omega
      rw [this,List.take_left'];rfl
     have a9:l.length=ts1.cnt+ks.cnt:=by rw [←hf,Tr.flat_len,a4]
     have key:∀a:Tr false,a.Fit→a.cnt=ks.cnt+1→a.flat ts1.cnt=ks.flat ts1.cnt++[n]→∃ts:Tr true,ts.flat 0=l++[n]∧ts.kids 0=s1∧ts.Fit:=by
      intro a h1 h2 h3;refine ⟨.snoc ts1 a,?_,?_,a5,h1⟩
      ·simp only [Tr.flat,Nat.zero_add,h3];rw [←List.append_assoc,←a1,hf]
      ·simp only [Tr.kids,Nat.zero_add];rw [←e2,a7,a9,h2];rfl
     rcases Tq c1 with ⟨b1,b2,b3⟩ | b1 | ⟨b1,b2⟩ | ⟨b1,b2,b3⟩
     ·have aa:ks.kids ts1.cnt=[]:=by rw [a0,b3]
      rcases ks.snoc_form with rfl | ⟨rs,a,rfl⟩
      ·exact key (.leaf n) ⟨b1,b2,b3,c4⟩ rfl rfl
      ·simp [Tr.kids] at aa
     ·obtain ⟨d1,d2⟩:=SZ c4 b1;refine key (.call n.text ks) ⟨d2,a6⟩ rfl ?_;simp only [Tr.flat,a0];rw [←d1]
     ·rcases ks.snoc_form with rfl | ⟨rs,a,rfl⟩
      ·simp [Tr.kids] at a3;omega
      ·rcases rs.snoc_form with rfl | ⟨rs',a',rfl⟩
       ·refine key (.neg a) a6.2 (by simp [Tr.cnt]) ?_;have hn:=N6 c4 (by omega);rw [←a0,b1] at hn;simp only [Tr.flat,Tr.kids,Tr.cnt,List.nil_append,Nat.add_zero] at hn ⊢;rw [hn]
       ·simp [Tr.kids] at a3;omega
     ·rcases ks.snoc_form with rfl | ⟨rs,b,rfl⟩
      ·simp [Tr.kids] at a3;omega
      ·rcases rs.snoc_form with rfl | ⟨rs',a,rfl⟩
       ·simp [Tr.kids] at a3;omega
       ·rcases rs'.snoc_form with rfl | ⟨rs'',a',rfl⟩
        ·refine key (.two n.kind a b) ⟨b1,b2,a6.1.2,a6.2⟩ (by simp [Tr.cnt]) ?_;have hn:=N6 c4 (by omega);rw [←a0] at hn;simp only [Tr.flat,Tr.kids,Tr.cnt,List.nil_append,Nat.zero_add,Nat.add_zero,List.cons_append] at hn ⊢;rw [←hn]
        ·simp [Tr.kids] at a3;omega
    ·cases e2
theorem Iw {l:List Ag} (h:BL l=true):∃t:Tr false,t.flat 0=l∧t.Fit:=by
 unfold BL at h
 split at h
 ·rename_i st e;obtain ⟨ts,h1,h2,h3⟩:=Tk l st e;have h:=of_decide_eq_true h;rcases ts.snoc_form with rfl | ⟨rs,a,rfl⟩
  ·rw [←h2] at h;simp [Tr.kids] at h
  ·rcases rs.snoc_form with rfl | ⟨rs',a',rfl⟩
   ·exact ⟨a,by simpa [Tr.flat,Tr.cnt] using h1,h3.2⟩
   ·rw [←h2] at h;simp [Tr.kids] at h
 ·cases h
def DC (s:List UInt8):List UInt8:=34::(s.flatMap (λc=>if c=34 then [34,34] else [c])++[34])
def BO (t:An):List UInt8:=if t.kind=1 then Lib.itoa t.num else if t.kind=2 then DC t.text else if t.kind=4 then B9 t.ref else if t.kind=6 then DG else t.text
def nA (t:An):An:={t with at_:=0}
def Pz:An:=⟨0,[],0,A3,0⟩
def sg (s:List UInt8):An:=⟨5,s,0,A3,0⟩
theorem De (s:List UInt8):BO (sg s)=s:=rfl
theorem It (t:An):BO (nA t)=BO t:=rfl
inductive Fw:An→Prop
 | num {z:Int}:0≤z→z≤9223372036854775807→Fw ⟨1,[],z,A3,0⟩
 | text {s:List UInt8}:KE s=true→Fw ⟨2,s,0,A3,0⟩
 | word {s:List UInt8}:JN s=true→AZ s=false→Fw ⟨3,s,0,A3,0⟩
 | ref {r:Co}:AP r=true→Fw ⟨4,[],0,r,0⟩
 | sign {s:List UInt8}:s∈Bf→Fw (sg s)
 | dead:Fw ⟨6,[],0,A3,0⟩
def ME (t:An) (R:List UInt8):Prop:=
 (t.kind=1→Al (Ab R 0)=false)∧(t.kind=2→Ab R 0≠34)∧(t.kind=3∨t.kind=4→D3 (Ab R 0)=false)∧(t.kind=5→t.text=[60]∨t.text=[62]→Ab R 0≠61∧Ab R 0≠62)
theorem VV {R:List UInt8} (h:Ab R 0≠34):R.head?≠some 34:=by
 cases R with
 | nil=>simp
 | cons c r=>
  simp only [List.head?_cons,ne_eq,Option.some.injEq];rintro rfl;exact h rfl
theorem Ol {p:Int→Bool} {R:List UInt8} (h:p (Ab R 0)=false):Ah p R=[]:=by
 cases R with
 | nil=>rfl
 | cons c r=>
  have:p (c.toNat:Int)=false:=h;simp [Ah,this]
theorem QC:∀(s R:List UInt8),KE s=true→R.head?≠some 34→AY (s.flatMap (λc=>if c=34 then [34,34] else [c])++34::R)=some (s,(s.flatMap (λc=>if c=34 then [34,34] else [c])).length+1)
 | [],R,_,h=>Vv h
 | c::s,R,hp,h=>by
  have hp':KE s=true:=by
   simp only [KE,decide_eq_true_eq] at hp ⊢;intro j hj;exact hp (j+1) (by simpa using hj)
  have hc:¬c<32:=by
   simp only [KE,decide_eq_true_eq] at hp;have h0:32≤(c.toNat:Int):=hp 0 (by simp);intro hh;have:=UInt8.lt_iff_toNat_lt.1 hh;simp at this;omega
  have ih:=QC s R hp' h;by_cases a0:c=34
  ·subst a0;simp only [List.flatMap_cons,if_true,List.cons_append,List.nil_append];rw [SE,ih];simp
  ·simp only [List.flatMap_cons,if_neg a0,List.cons_append,List.nil_append];rw [Vu a0 hc,ih];simp
theorem TD {s R:List UInt8} (hp:KE s=true) (h:Ab R 0≠34):Cj (DC s++R)=some (⟨2,s,0,A3,0⟩,(DC s).length):=by
 have hb:Ab (DC s++R) 0=34:=rfl;rw [Cj,hb,show Al 34=false from rfl,if_neg (by simp),if_pos rfl,El];have e:(DC s++R).drop 1=s.flatMap (λc=>if c=34 then [34,34] else [c])++34::R:=by simp [DC]
 rw [e,QC s R hp (VV h)];simp [DC]
theorem MR {r:Co} (h:AP r=true):(∀c∈B9 r,D3 (c.toNat:Int)=true)∧Gb (Ab (B9 r) 0)=true:=by
 obtain ⟨hs,c0,c1,r0,r1⟩:=Ds h;obtain ⟨hc,a3,_⟩:=LV c0 c1;obtain ⟨hd,a5,_,_⟩:=FO (z:=r.row+1) (by omega) (by omega);have a0:∀b c,c∈Dj b→c=36:=λb c hm=>by cases b<;>simp [Dj] at hm;exact hm
 have wcap:∀z,AX z=true→Gb z=true:=λz hz=>by simp [Gb,hz]
 have wld:∀z,QQ z=true→D3 z=true:=λz hz=>by
  simp only [QQ,ER,Bool.or_eq_true] at hz;simp only [D3,Gb,Bool.or_eq_true];rcases hz with (hz | hz) | hz
  ·exact .inl (.inl (.inl (.inl hz)))
  ·exact .inl (.inl (.inl (.inr hz)))
  ·exact .inl (.inr hz)
 refine ⟨?_,?_⟩
 ·intro c hm;simp only [B9,List.mem_append] at hm;rcases hm with hm | ((hm | hm) | hm) | hm
  ·by_cases a1:r.sheet=[]
   ·simp [a1] at hm
   ·simp only [a1,if_false,List.mem_append,List.mem_singleton] at hm;rcases hm with hm | hm
    ·obtain ⟨_,_,a4⟩:=II (hs.resolve_left a1);obtain ⟨j,hj,rfl⟩:=List.mem_iff_getElem.1 hm;have:=a4 j hj;rw [Bz hj] at this;exact wld _ this
    ·subst hm;rfl
  ·rw [a0 _ c hm];rfl
  ·have:=wcap _ (hc c hm);simp [D3,this]
  ·rw [a0 _ c hm];rfl
  ·have:=hd c hm;simp [D3,this]
 ·have a2:∀x,Gb (Ab (Dj r.ac++EP r.col++x) 0)=true:=λx=>by
   cases ha:r.ac with
   | true=>rfl
   | false=>
    have:Dj false++EP r.col++x=EP r.col++x:=rfl;rw [this,B3 a3];obtain ⟨c,hm,e⟩:=D6 a3;rw [e];exact wcap _ (hc c hm)
  by_cases a1:r.sheet=[]
  ·have:=a2 (Dj r.ar++Lib.itoa (r.row+1))
   simpa [B9,a1] using this
  ·have hn:=hs.resolve_left a1;have hl:ER (Ab r.sheet 0)=true:=by
    simp only [DJ,Bool.and_eq_true,decide_eq_true_eq] at hn;exact hn.1.2
   have:Ab (B9 r) 0=Ab r.sheet 0:=by
    simp only [B9,a1,if_false,List.append_assoc];exact B3 (List.length_pos_iff.2 a1)
   rw [this,O1,hl];rfl
theorem JU {z:Int} (h:Gb z=true):Al z=false∧z≠34∧z≠32∧z≠35∧z≠61∧z≠62:=by
 simp only [Gb,AX,Bool.or_eq_true,Bool.and_eq_true,decide_eq_true_eq] at h;refine ⟨?_,by omega,by omega,by omega,by omega,by omega⟩;simp [Al];omega
theorem Me {s:List UInt8} (h:JN s=true):s≠[]∧s.length≤12∧AX (Ab s 0)=true∧∀c∈s,D3 (c.toNat:Int)=true:=by
 simp only [JN,Bool.and_eq_true,decide_eq_true_eq] at h;obtain ⟨⟨⟨h0,h1⟩,h2⟩,h3⟩:=h;refine ⟨h0,h1,h2,λc hc=>?_⟩;obtain ⟨j,hj,rfl⟩:=List.mem_iff_getElem.1 hc;have:=h3 j hj;rw [Bz hj] at this;simp only [Us,Bool.or_eq_true] at this;simp only [D3,Gb,Bool.or_eq_true];rcases this with h | h
 ·exact .inl (.inl (.inl (.inl h)))
 ·exact .inl (.inr h)
theorem KU {z:Int} (h:AX z=true):Gb z=true:=by simp [Gb,h]
theorem JF:∀s∈Bf,s≠[]∧Al (Ab s 0)=false∧Ab s 0≠34∧Gb (Ab s 0)=false∧Ab s 0≠35∧Ab s 0≠32∧D3 (Ab s 0)=false:=by decide
theorem WQ {s R:List UInt8} (hs:s∈Bf) (h:s=[60]∨s=[62]→Ab R 0≠61∧Ab R 0≠62):Cj (s++R)=some (sg s,s.length):=by
 obtain ⟨a0,a1,a2,a3,a4,_,_⟩:=JF s hs;have hb:Ab (s++R) 0=Ab s 0:=Ev a0 _;have hf:Bf.find? (λx=>Lib.hasPrefix (s++R) x)=some s:=by
  rcases Vy hs with hl | hp
  ·match s,hl with
   | [c],_=>
    have hn:([c]++R).take 2∉C6:=by
     cases R with
     | nil=>simp [C6]
     | cons d r=>
      simp only [List.cons_append,List.nil_append,List.take,C6,List.mem_cons,List.cons.injEq,and_true,List.not_mem_nil,or_false];rintro (⟨rfl,rfl⟩ | ⟨rfl,rfl⟩ | ⟨rfl,rfl⟩)
      ·exact (h (.inl rfl)).2 rfl
      ·exact (h (.inl rfl)).1 rfl
      ·exact (h (.inr rfl)).1 rfl
    rw [HK (by simp) hn,hb];have:∀s∈Bf,s.length=1→Wq (Ab s 0)=true:=by decide
    rw [this [c] hs rfl];rfl
  ·have h2:s.length=2:=by
    have:∀p∈C6,p.length=2:=by decide
    exact this _ hp
   have ht:(s++R).take 2=s:=by rw [←h2,List.take_left]
   rw [Is (by rw [ht];exact hp),ht]
 rw [Cj,hb,a1,if_neg (by simp),if_neg a2,a3,if_neg (by simp),EL,LY (by rw [hb];exact a4),if_neg (by simp),hf];rfl
theorem WP {t:An} (h:Fw t) {R:List UInt8} (hn:ME t R):Cj (BO t++R)=some (t,(BO t).length):=by
 cases h with
 | @num z h0 h1=>
  show Cj (Lib.itoa z++R)=some (_,(Lib.itoa z).length);have e:((z.toNat:Nat):Int)=z:=by omega
  rw [Gq h0,We (u:=z.toNat) (by omega) (.inr (hn.1 rfl)),e]
 | text hp=>exact TD hp (hn.2.1 rfl)
 | @word s hf ho=>
  obtain ⟨f0,f1,f2,f3⟩:=Me hf;obtain ⟨b0,b1,_⟩:=JU (KU f2);have hs:Ah D3 (s++R)=s:=by rw [EM D3 s R f3,Ol (hn.2.2.1 (.inl rfl)),List.append_nil]
  show Cj (s++R)=some (_,s.length)
  rw [Cj,Ev f0,b0,if_neg (by simp),if_neg b1,KU f2,if_pos rfl,DP,hs,ho,if_neg (by simp),hf,if_pos rfl]
 | @ref r hm=>
  obtain ⟨g0,g1⟩:=MR hm;obtain ⟨a0,a1⟩:=Od hm;obtain ⟨b0,b1,_⟩:=JU g1;have hs:Ah D3 (B9 r++R)=B9 r:=by rw [EM D3 _ R g0,Ol (hn.2.2.1 (.inr rfl)),List.append_nil]
  show Cj (B9 r++R)=some (_,(B9 r).length)
  rw [Cj,Ev (Nh hm),b0,if_neg (by simp),if_neg b1,g1,if_pos rfl,DP,hs,a0,if_pos rfl,a1]
 | sign hs=>exact WQ hs (hn.2.2.2 rfl)
 | dead=>rfl
theorem Ky {t:An} (h:Fw t):BO t≠[]∧Ab (BO t) 0≠32:=by
 cases h with
 | @num z h0 h1=>
  show Lib.itoa z≠[]∧Ab (Lib.itoa z) 0≠32;rw [Gq h0]
  exact ⟨(LZ _).2.1,(LZ _).2.2⟩
 | text hp=>exact ⟨by simp [BO,DC],by show (34:Int)≠32;decide⟩
 | word hf ho=>
  obtain ⟨f0,f1,f2,f3⟩:=Me hf
  exact ⟨f0,(JU (KU f2)).2.2.1⟩
 | ref hm=>exact ⟨Nh hm,(JU (MR hm).2).2.2.1⟩
 | sign hs=>
  obtain ⟨a0,a1,a2,a3,a4,a5,_⟩:=JF _ hs
  exact ⟨a0,a5⟩
 | dead=>exact ⟨by simp [BO,DG],by decide⟩
def Ox:List An→Prop
 | []=>True
 | t::r=>ME t (r.flatMap BO)∧Ox r
theorem PG:∀(ts:List An) (a:Nat),(∀t∈ts,Fw t)→Ox ts→∃T,F5 (ts.flatMap BO) a=some T∧T.map nA=ts++[Pz]
 | [],a,_,_=>⟨_,EB rfl,rfl⟩
 | t::r,a,hc,hl=>by
  have ht:=hc t (by simp);obtain ⟨T,h1,h2⟩:=PG r (a+(BO t).length) (λx hx=>hc x (by simp [hx])) hl.2;obtain ⟨n0,n1⟩:=Ky ht;rw [List.flatMap_cons,Tx n0 n1 (WP ht hl.1),h1];refine ⟨_,rfl,?_⟩;simp only [List.map_cons,h2,List.cons_append,List.cons.injEq,and_true];cases ht<;>rfl
theorem UC:∀(n:Nat) (l:List UInt8),l.length≤n→(∀c∈l,Al (c.toNat:Int)=true)→l≠[]→(Ab l 0≠48∨l.length=1)→(Lib.itoa (Ay 0 l)).length≤l.length
 | n,l,hn,hd,hne,h0=>by
  have hb:=Gw l (λj hj=>by
   have:=hd _ (List.getElem_mem hj)
   simpa [Bz hj] using this)
  rw [Gq hb.1];obtain ⟨r,c,rfl⟩:∃r c,l=r++[c]:=⟨l.dropLast,l.getLast hne,(List.dropLast_concat_getLast hne).symm⟩;have hc:=hd c (by simp);simp only [Al,Bool.and_eq_true,decide_eq_true_eq] at hc
  cases r with
  | nil=>
   have e:Ay 0 ([]++[c])=(c.toNat:Int) - 48:=by
    rw [Fm];have:Ay 0 []=0:=rfl;omega
   rw [e,CE (by omega)]
   simp
  | cons d r=>
   have a0:∀x∈d::r,Al (x.toNat:Int)=true:=λx hx=>hd x (List.mem_append_left _ hx);have h1:Ab (d::r) 0≠48:=by
    rcases h0 with h0 | h0
    ·exact h0
    ·simp at h0
   match n with
   | 0=>simp at hn
   | n+1=>
    have ih:=UC n (d::r) (by simp at hn ⊢;omega) a0 (by simp) (.inl h1);have a1:=Gw (d::r) (λj hj=>by
     have:=a0 _ (List.getElem_mem hj)
     simpa [Bz hj] using this)
    rw [Gq a1.1] at ih;have a2:∀x∈d::r,48≤x.toNat:=λx hx=>by
     have:=a0 x hx;simp only [Al,Bool.and_eq_true,decide_eq_true_eq] at this;omega
    have a3:Ay 0 (d::r)≠0:=λhz=>by
     obtain ⟨_,h2⟩:=ES (d::r) 0 (by omega) a2 hz;have:=h2 d (by simp);exact h1 (by show (d.toNat:Int)=48;omega)
    have hx:=Fm 0 (d::r) c;have e1:10≤(Ay 0 (d::r++[c])).toNat:=by omega
    have e2:(Ay 0 (d::r++[c])).toNat / 10=(Ay 0 (d::r)).toNat:=by omega
    rw [DX e1,e2];simp only [List.length_append,List.length_singleton];omega
theorem O7:∀(n:Nat) (l:List UInt8) (x:List UInt8×Nat),l.length≤n→AY l=some x→(x.1.flatMap (λc=>if c=(34:UInt8) then [34,34] else [c])).length+1≤x.2
 | n,[],x,hn,h=>by simp [AY] at h
 | 0,c::l,x,hn,h=>by simp at hn
 | n+1,c::l,x,hn,h=>by
  simp only [List.length_cons] at hn;by_cases h1:c=34
  ·subst h1;by_cases hq:l.head?=some 34
   ·cases l with
    | nil=>cases hq
    | cons d r=>
     simp only [List.head?_cons,Option.some.injEq] at hq;subst hq;rw [SE] at h
     cases e:AY r with
     | none=>rw [e] at h;cases h
     | some y=>
      rw [e] at h;simp only [Option.map_some,Option.some.injEq] at h;have:=O7 n r y (by simp at hn;omega) e;subst h;simp only [List.flatMap_cons,if_true,List.length_append,List.length_cons,List.length_nil];omega
   ·rw [Vv hq] at h;simp only [Option.some.injEq] at h;subst h;simp
  ·by_cases h2:c<32
   ·rw [Uc h1 h2] at h;cases h
   ·rw [Vu h1 h2] at h
    cases e:AY l with
    | none=>rw [e] at h;cases h
    | some y=>
     rw [e] at h;simp only [Option.map_some,Option.some.injEq] at h;have:=O7 n l y (by omega) e;subst h;simp only [List.flatMap_cons,if_neg h1,List.length_append,List.length_cons,List.length_nil];omega
theorem Vj {l:List UInt8} {t:An} {k:Nat} (h:Cj l=some (t,k)):Fw t∧(BO t).length≤k:=by
 unfold Cj at h
 split at h
 ·rename_i h0;have a0:Ah Al l≠[]:=by
   have:=(HL (p:=Al) (l:=l) (by
    cases l with
    | nil=>cases h0
    | cons a b=>simp) h0).1
   exact List.length_pos_iff.1 this
  rw [J4 a0] at h
  split at h
  ·rename_i hc;simp only [Option.some.injEq,Prod.mk.injEq] at h;obtain ⟨rfl,rfl⟩:=h;have hb:=Gw (Ah Al l) (λj hj=>by
    have hh:=G8 Al l _ (List.getElem_mem hj)
    simpa [Bz hj] using hh)
   refine ⟨.num hb.1 hc.1,?_⟩;exact UC _ _ (Nat.le_refl _) (G8 Al l) a0 hc.2
  ·cases h
 ·split at h
  ·unfold El at h
   cases e:AY (l.drop 1) with
   | none=>rw [e] at h;cases h
   | some x=>
    rw [e] at h;simp only [Option.map_some,Option.some.injEq,Prod.mk.injEq] at h;obtain ⟨rfl,rfl⟩:=h;have h1:=L2 _ e;have h2:=O7 _ _ x (Nat.le_refl _) e;refine ⟨.text h1.1,?_⟩;show (DC x.1).length≤_;simp only [DC,List.length_cons,List.length_append,List.length_nil];omega
  ·split at h
   ·unfold DP at h;simp only at h
    split at h
    ·rename_i hr;simp only [Option.some.injEq,Prod.mk.injEq] at h;obtain ⟨rfl,rfl⟩:=h;obtain ⟨h1,h2⟩:=S9 hr;refine ⟨.ref h1,?_⟩;show (B9 _).length≤_;rw [h2];exact Nat.le_refl _
    ·rename_i hr
     split at h
     ·rename_i hf;simp only [Option.some.injEq,Prod.mk.injEq] at h;obtain ⟨rfl,rfl⟩:=h;exact ⟨.word hf (by simpa using hr),Nat.le_refl _⟩
     ·cases h
   ·unfold EL at h
    split at h
    ·simp only [Option.some.injEq,Prod.mk.injEq] at h;obtain ⟨rfl,rfl⟩:=h;exact ⟨.dead,Nat.le_refl _⟩
    ·cases e:Bf.find? λs=>Lib.hasPrefix l s with
     | none=>rw [e] at h;cases h
     | some x=>
      rw [e] at h;simp only [Option.map_some,Option.some.injEq,Prod.mk.injEq] at h;obtain ⟨rfl,rfl⟩:=h;exact ⟨.sign (List.mem_of_find?_eq_some e),Nat.le_refl _⟩
theorem PA:∀(n:Nat) (l:List UInt8) (a:Nat) {out:List An},l.length≤n→F5 l a=some out→(∀t∈out,nA t=Pz∨Fw (nA t))∧(out.flatMap BO).length≤l.length
 | n,l,a,out,hn,h=>by
  cases e:l.drop (Ah Ff l).length with
  | nil=>
   rw [EB e] at h;simp only [Option.some.injEq] at h;subst h;refine ⟨λt ht=>?_,by simp [BO]⟩;rw [List.mem_singleton.1 ht]
   exact .inl rfl
  | cons c r=>
   have hl':=congrArg List.length e;simp at hl'
   cases ho:Cj (c::r) with
   | none=>rw [F6 e (by simp) ho] at h;cases h
   | some x=>
    obtain ⟨t,k⟩:=x;have hk:=ED (by simp) ho;have hk2:=OE ho;have hok:=Vj ho;rw [FQ e (by simp) ho hk] at h
    cases hr:F5 ((c::r).drop k) (a+(Ah Ff l).length+k) with
    | none=>rw [hr] at h;cases h
    | some y=>
     rw [hr] at h;simp only [Option.map_some,Option.some.injEq] at h;subst h
     match n with
     | 0=>omega
     | n+1=>
      have hd:((c::r).drop k).length=r.length+1 - k:=by simp
      have ih:=PA n ((c::r).drop k) _ (by rw [hd];omega) hr;rw [hd] at ih;have a0:k≤r.length+1:=hk2;refine ⟨λt' ht=>?_,?_⟩
      ·rcases List.mem_cons.1 ht with rfl | ht
       ·refine .inr ?_;have:nA {t with at_:=((a+(Ah Ff l).length:Nat):Int)}=t:=by
         cases hok.1<;>rfl
        rw [this];exact hok.1
       ·exact ih.1 t' ht
      ·rw [List.flatMap_cons,List.length_append];have:BO {t with at_:=((a+(Ah Ff l).length:Nat):Int)}=BO t:=rfl;rw [this];have:=hok.2;have:=ih.2;omega
def BK (k:Int):Nat:=if k=8 then 5 else if 9≤k∧k≤14 then 1 else if k=15 then 2 else if k=16∨k=17 then 3 else if k=18∨k=19 then 4 else 6
def Tr.rank:{b:Bool}→Tr b→Nat
 | _,.neg _=>5
 | _,.two k _ _=>BK k
 | _,_=>6
def EW (k:Int):List UInt8:=J5.getD (k - 9).toNat []
def Ct (n:Ag):List An:=
 if n.kind=1 then [⟨1,[],n.num,A3,0⟩]
 else if n.kind=2 then [⟨2,n.text,0,A3,0⟩]
 else if n.kind=3 then [⟨3,if n.num=1 then CK else C4,0,A3,0⟩]
 else if n.kind=4 then [⟨6,[],0,A3,0⟩]
 else if n.kind=5 then [⟨4,[],0,n.ref,0⟩]
 else [⟨4,[],0,n.ref,0⟩,sg [58],⟨4,[],0,n.to,0⟩]
def brk (b:Bool) (l:List An):List An:=if b then sg [40]::(l++[sg [41]]) else l
def Tr.toks:{b:Bool}→Tr b→List An
 | _,.leaf n=>Ct n
 | _,.neg a=>sg [45]::brk (decide (a.rank<5)) a.toks
 | _,.two k a b=>brk (decide (a.rank<BK k)) a.toks++sg (EW k)::brk (decide (b.rank<BK k+1)) b.toks
 | _,.call x .nil=>[⟨3,x,0,A3,0⟩,sg [40],sg [41]]
 | _,.call x (.snoc rs a)=>⟨3,x,0,A3,0⟩::sg [40]::(rs.toks++(a.toks++[sg [41]]))
 | _,.nil=>[]
 | _,.snoc ks a=>ks.toks++(a.toks++[sg [44]])
def Tr.text {b:Bool} (t:Tr b):List UInt8:=t.toks.flatMap BO
def Tr.opt (n:Nat) (t:Tr false):List An:=brk (decide (t.rank<n)) t.toks
def Tr.Num {b:Bool} (t:Tr b):Prop:=∀k∈t.toks,k.num≤9223372036854775807
theorem Uf:∀o,o<11→J5.getD o []∈Bf:=by decide
theorem Ir {k:Int} (h0:9≤k) (h1:k≤19):EW k∈Bf:=Uf _ (by omega)
theorem EY {b:Bool} {l:List An} {t:An} (h:t∈brk b l):t∈l∨t=sg [40]∨t=sg [41]:=by
 unfold brk at h
 split at h
 ·simp only [List.mem_cons,List.mem_append,List.not_mem_nil,or_false] at h;rcases h with h | h | h
  ·exact .inr (.inl h)
  ·exact .inl h
  ·exact .inr (.inr h)
 ·exact .inl h
theorem BG {b:Bool} {l:List An} {t:An} (h:t∈l):t∈brk b l:=by
 unfold brk
 split
 ·simp [h]
 ·exact h
theorem DN {n:Ag} (h:Ar n=true):Fb n=true:=by
 simp only [Ar,Bool.and_eq_true] at h;exact h.1
theorem UV {n:Ag} (h0:1≤n.kind) (h1:n.kind≤6) (hp:Ar n=true) (hn:∀k∈Ct n,k.num≤9223372036854775807):∀t∈Ct n,Fw t:=by
 have ho:=DN hp;intro t ht;have a0:Fw (sg [58]):=.sign (by decide);have:n.kind=1∨n.kind=2∨n.kind=3∨n.kind=4∨n.kind=5∨n.kind=6:=by omega
 rcases this with h | h | h | h | h | h<;>simp only [Ct,Fb,h,if_true,if_false,Int.reduceEq,List.mem_cons,List.not_mem_nil,or_false,Bool.and_eq_true,decide_eq_true_eq] at ht ho hn
 ·subst ht;exact .num ho (hn _ rfl)
 ·subst ht;exact .text ho
 ·subst ht
  split
  ·exact .word (by decide) (by decide +kernel)
  ·exact .word (by decide) (by decide +kernel)
 ·subst ht;exact .dead
 ·subst ht;exact .ref ho
 ·rcases ht with rfl | rfl | rfl
  ·exact .ref ho.1
  ·exact a0
  ·exact .ref ho.2.1
theorem J1 {x:List UInt8} (h:Cu x=true):Fw ⟨3,x,0,A3,0⟩:=by
 simp only [Cu,Bool.and_eq_true,Bool.not_eq_true'] at h;exact .word h.1.1.1 h.1.1.2
theorem Tr.can:∀{b:Bool} (t:Tr b),t.Fit→t.Num→∀k∈t.toks,Fw k
 | _,.leaf n,hf,hn,k,hk=>UV hf.1 hf.2.1 hf.2.2.2 hn k hk
 | _,.neg a,hf,hn,k,hk=>by
  have ha:=can a hf (λu hu=>hn u (by simp only [Tr.toks];exact List.mem_cons_of_mem _ (BG hu)));simp only [Tr.toks,List.mem_cons] at hk;rcases hk with rfl | hk
  ·exact .sign (by decide)
  ·rcases EY hk with hk | rfl | rfl
   ·exact ha k hk
   ·exact .sign (by decide)
   ·exact .sign (by decide)
 | _,.two o a b,hf,hn,k,hk=>by
  have ha:=can a hf.2.2.1 (λu hu=>hn u (by simp only [Tr.toks];exact List.mem_append_left _ (BG hu)));have hb:=can b hf.2.2.2 (λu hu=>hn u (by simp only [Tr.toks];exact List.mem_append_right _ (List.mem_cons_of_mem _ (BG hu))));simp only [Tr.toks,List.mem_append,List.mem_cons] at hk;rcases hk with hk | rfl | hk
  ·rcases EY hk with hk | rfl | rfl
   ·exact ha k hk
   ·exact .sign (by decide)
   ·exact .sign (by decide)
  ·exact .sign (Ir hf.1 hf.2.1)
  ·rcases EY hk with hk | rfl | rfl
   ·exact hb k hk
   ·exact .sign (by decide)
   ·exact .sign (by decide)
 | _,.call x .nil,hf,hn,k,hk=>by
  simp only [Tr.toks,List.mem_cons,List.not_mem_nil,or_false] at hk;rcases hk with rfl | rfl | rfl
  ·exact J1 hf.1
  ·exact .sign (by decide)
  ·exact .sign (by decide)
 | _,.call x (.snoc rs a),hf,hn,k,hk=>by
  have hr:=can rs hf.2.1 (λu hu=>hn u (by simp only [Tr.toks];simp [hu]));have ha:=can a hf.2.2 (λu hu=>hn u (by simp only [Tr.toks];simp [hu]));simp only [Tr.toks,List.mem_cons,List.mem_append,List.not_mem_nil,or_false] at hk;rcases hk with rfl | rfl | hk | hk | rfl
  ·exact J1 hf.1
  ·exact .sign (by decide)
  ·exact hr k hk
  ·exact ha k hk
  ·exact .sign (by decide)
 | _,.nil,_,_,k,hk=>by cases hk
 | _,.snoc rs a,hf,hn,k,hk=>by
  have hr:=can rs hf.1 (λu hu=>hn u (by simp only [Tr.toks];simp [hu]));have ha:=can a hf.2 (λu hu=>hn u (by simp only [Tr.toks];simp [hu]));simp only [Tr.toks,List.mem_append,List.mem_cons,List.not_mem_nil,or_false] at hk;rcases hk with hk | hk | rfl
  ·exact hr k hk
  ·exact ha k hk
  ·exact .sign (by decide)
def C1 (l:List An):Prop:=l.flatMap BO≠[]∧Ab (l.flatMap BO) 0≠61∧Ab (l.flatMap BO) 0≠62
theorem C1.app {l:List An} (h:C1 l) (m:List An):C1 (l++m):=by
 unfold C1 at h ⊢;rw [List.flatMap_append,Ev h.1];exact ⟨by simp [h.1],h.2⟩
theorem C1.cons {t:An} (h:BO t≠[]) (h1:Ab (BO t) 0≠61) (h2:Ab (BO t) 0≠62) (m:List An):C1 (t::m):=by
 unfold C1;rw [List.flatMap_cons,Ev h];exact ⟨by simp [h],h1,h2⟩
theorem C1.brk {l:List An} (h:C1 l) (b:Bool):C1 (Go.Proofs.YtefaigjfkddelaaGreatDoor.brk b l):=by
 unfold Go.Proofs.YtefaigjfkddelaaGreatDoor.brk
 split
 ·exact C1.cons (by simp [De]) (by rw [De];decide) (by rw [De];decide) _
 ·exact h
theorem LS {t:An} (h:Fw t) (hk:t.kind≠5) (m:List An):C1 (t::m):=by
 have h0:=(Ky h).1
 cases h with
 | @num z a0 h1=>
  refine C1.cons h0 ?_ ?_ m<;>
  ·show Ab (Lib.itoa z) 0≠_;rw [Gq a0];have:=(LZ z.toNat).1;simp only [Al,Bool.and_eq_true,decide_eq_true_eq] at this
   omega
 | text hp=>exact C1.cons h0 (by show (34:Int)≠61;decide) (by show (34:Int)≠62;decide) m
 | word hf ho=>
  have:=JU (KU (Me hf).2.2.1)
  exact C1.cons h0 this.2.2.2.2.1 this.2.2.2.2.2 m
 | ref hm=>
  have:=JU (MR hm).2
  exact C1.cons h0 this.2.2.2.2.1 this.2.2.2.2.2 m
 | sign hs=>exact absurd rfl hk
 | dead=>exact C1.cons h0 (by decide) (by decide) m
theorem Gr {n:Ag} (h0:1≤n.kind) (h1:n.kind≤6):∃t m,Ct n=t::m∧t.kind≠5∧(m=[]∨∃u,m=[sg [58],u]∧u.kind=4∧t.kind=4):=by
 have:n.kind=1∨n.kind=2∨n.kind=3∨n.kind=4∨n.kind=5∨n.kind=6:=by omega
 rcases this with h | h | h | h | h | h<;>simp only [Ct,h,if_true,if_false,Int.reduceEq]
 ·exact ⟨_,_,rfl,by simp,.inl rfl⟩
 ·exact ⟨_,_,rfl,by simp,.inl rfl⟩
 ·exact ⟨_,_,rfl,by simp,.inl rfl⟩
 ·exact ⟨_,_,rfl,by simp,.inl rfl⟩
 ·exact ⟨_,_,rfl,by simp,.inl rfl⟩
 ·exact ⟨_,_,rfl,by simp,.inr ⟨_,rfl,rfl,rfl⟩⟩
theorem Tr.head:∀(t:Tr false),t.Fit→t.Num→C1 t.toks
 | .leaf n,hf,hn=>by
  obtain ⟨t,m,e,hk,_⟩:=Gr hf.1 hf.2.1;have hc:=(Tr.leaf n).can hf hn t (by show t∈Ct n;rw [e];simp);show C1 (Ct n);rw [e]
  exact LS hc hk m
 | .neg a,_,_=>C1.cons (by simp [De]) (by rw [De];decide) (by rw [De];decide) _
 | .two o a b,hf,hn=>by
  have ha:=head a hf.2.2.1 (λu hu=>hn u (by simp only [Tr.toks];exact List.mem_append_left _ (BG hu)))
  exact (ha.brk _).app _
 | .call x .nil,hf,_=>LS (J1 hf.1) (by simp) _
 | .call x (.snoc rs a),hf,_=>LS (J1 hf.1) (by simp) _
def SP (R:List UInt8):Prop:=Al (Ab R 0)=false∧Ab R 0≠34∧D3 (Ab R 0)=false
theorem GX {s:List UInt8} (h:s∈Bf) (B:List An):SP ((sg s::B).flatMap BO):=by
 obtain ⟨a0,a1,a2,a3,a4,a5,a6⟩:=JF s h;rw [List.flatMap_cons,De];unfold SP;rw [Ev a0];exact ⟨a1,a2,a6⟩
theorem G7 {t:An} (hk:t.kind≠5) {R:List UInt8} (h:SP R):ME t R:=⟨λ_=>h.1,λ_=>h.2.1,λ_=>h.2.2,λe=>absurd e hk⟩
theorem Fe {s R:List UInt8} (h1:s≠[60]) (h2:s≠[62]):ME (sg s) R:=⟨by simp [sg],by simp [sg],by simp [sg],λ_ e=>by rcases e with e | e<;>contradiction⟩
theorem Tn {s:List UInt8} {B:List An} (h:C1 B):ME (sg s) (B.flatMap BO):=⟨by simp [sg],by simp [sg],by simp [sg],λ_ _=>h.2⟩
theorem Mw {l:List An} (hl:∀B:List An,SP (B.flatMap BO)→Ox B→Ox (l++B)) (b:Bool):∀B:List An,SP (B.flatMap BO)→Ox B→Ox (brk b l++B):=by
 intro B hs hB;unfold brk
 split
 ·simp only [List.cons_append,List.append_assoc,List.nil_append];exact ⟨Fe (by decide) (by decide),hl _ (GX (by decide) B) ⟨Fe (by decide) (by decide),hB⟩⟩
 ·exact hl B hs hB
theorem Tr.link:∀{b:Bool} (t:Tr b),t.Fit→t.Num→∀B:List An,(b=true∨SP (B.flatMap BO))→Ox B→Ox (t.toks++B)
 | _,.leaf n,hf,hn,B,hs,hB=>by
  have hs:=hs.resolve_left (by simp);obtain ⟨t,m,e,hk,hm⟩:=Gr hf.1 hf.2.1;show Ox (Ct n++B);rw [e];rcases hm with rfl | ⟨u,rfl,hu,_⟩
  ·exact ⟨G7 hk hs,hB⟩
  ·exact ⟨G7 hk (GX (by decide) _),Fe (by decide) (by decide),G7 (by omega) hs,hB⟩
 | _,.neg a,hf,hn,B,hs,hB=>by
  have hs:=hs.resolve_left (by simp);have ha:=link a hf (λu hu=>hn u (by simp only [Tr.toks];exact List.mem_cons_of_mem _ (BG hu)))
  exact ⟨Fe (by decide) (by decide),Mw (λB h1 h2=>ha B (.inr h1) h2) _ B hs hB⟩
 | _,.two o a b,hf,hn,B,hs,hB=>by
  have hs:=hs.resolve_left (by simp);have hna:a.Num:=λu hu=>hn u (by simp only [Tr.toks];exact List.mem_append_left _ (BG hu));have hnb:b.Num:=λu hu=>hn u (by simp only [Tr.toks];exact List.mem_append_right _ (List.mem_cons_of_mem _ (BG hu)));have ha:=link a hf.2.2.1 hna;have hb:=link b hf.2.2.2 hnb;have hm:=Ir hf.1 hf.2.1;simp only [Tr.toks,List.append_assoc,List.cons_append]
  exact Mw (λB h1 h2=>ha B (.inr h1) h2) _ _ (GX hm _) ⟨Tn (((b.head hf.2.2.2 hnb).brk _).app _),Mw (λB h1 h2=>hb B (.inr h1) h2) _ B hs hB⟩
 | _,.call x .nil,hf,hn,B,hs,hB=>⟨G7 (by simp) (GX (by decide) _),Fe (by decide) (by decide),Fe (by decide) (by decide),hB⟩
 | _,.call x (.snoc rs a),hf,hn,B,hs,hB=>by
  have hr:=link rs hf.2.1 (λu hu=>hn u (by simp only [Tr.toks];simp [hu]));have ha:=link a hf.2.2 (λu hu=>hn u (by simp only [Tr.toks];simp [hu]));simp only [Tr.toks,List.append_assoc,List.cons_append,List.nil_append]
  exact ⟨G7 (by simp) (GX (by decide) _),Fe (by decide) (by decide),hr _ (.inl rfl) (ha _ (.inr (GX (by decide) _)) ⟨Fe (by decide) (by decide),hB⟩)⟩
 | _,.nil,_,_,B,_,hB=>hB
 | _,.snoc rs a,hf,hn,B,_,hB=>by
  have hr:=link rs hf.1 (λu hu=>hn u (by simp only [Tr.toks];simp [hu]));have ha:=link a hf.2 (λu hu=>hn u (by simp only [Tr.toks];simp [hu]));simp only [Tr.toks,List.append_assoc,List.cons_append,List.nil_append];exact hr _ (.inl rfl) (ha _ (.inr (GX (by decide) _)) ⟨Fe (by decide) (by decide),hB⟩)
theorem Tr.lex (t:Tr false) (hf:t.Fit) (hn:t.Num):∃T,Hj t.text=some T∧T.map nA=t.toks++[Pz]:=by
 have:=t.link hf hn [] (.inr ⟨rfl,by decide,rfl⟩) trivial;rw [List.append_nil] at this;exact PG _ 0 (t.can hf hn) this
def Ij (least r need:Nat):Nat:=if r<least then need+1 else need
def Tr.need:{b:Bool}→Tr b→Nat
 | _,.leaf _=>0
 | _,.neg a=>Ij 5 a.rank a.need+1
 | _,.two k a b=>max (Ij (BK k) a.rank a.need) (Ij (BK k+1) b.rank b.need)
 | _,.call _ ks=>ks.need+1
 | _,.nil=>0
 | _,.snoc ks a=>max ks.need a.need
def PR (n:Nat):DE:=if n<4 then .lev n else if n=4 then .unary else .prim
theorem RU {n:Nat} (h:n<4):below n=PR (n+1):=by
 unfold below PR;by_cases h3:n<3
 ·rw [if_pos h3,if_pos (by omega)]
 ·rw [if_neg h3,if_neg (by omega),if_pos (by omega)]
def Left (T:List An) (s:Bv):List An:=(T.drop s.at_).map nA
theorem Dr {T:List An} {s:Bv} {u:An} {R:List An} (h:Left T s=u::R):(Aa T s).kind=u.kind∧(Aa T s).text=u.text∧(Aa T s).num=u.num∧(Aa T s).ref=u.ref:=by
 unfold Left at h;have:((T.drop s.at_).map nA)[0]?=some u:=by rw [h];rfl
 rw [List.getElem?_map,List.getElem?_drop,Nat.add_zero] at this
 cases e:T[s.at_]? with
 | none=>rw [e] at this;cases this
 | some t=>
  rw [e] at this;simp only [Option.map_some,Option.some.injEq] at this;have et:Aa T s=t:=by simp [Aa,List.getD_eq_getElem?_getD,e]
  rw [et,←this];exact ⟨rfl,rfl,rfl,rfl⟩
theorem Bw {T:List An} {s s':Bv} {w R:List An} (h:Left T s=w++R) (hs:s'.at_=s.at_+w.length):Left T s'=R:=by
 unfold Left at h ⊢;rw [hs,←List.drop_drop,List.map_drop,h,List.drop_left]
theorem CF {T:List An} {s:Bv} {u:An} {R:List An} (h:Left T s=u::R) (x:List UInt8):BA T s x=(decide (u.kind=5)&&decide (u.text=x)):=by
 obtain ⟨h1,h2,_⟩:=Dr h;rw [BA,h1,h2]
def X4 (n:Nat) (u:An):Prop:=u.kind=5→u.text≠[58]∧∀m,n≤m→m<4→(A8 m).findIdx? (λx=>decide (x=u.text))=none
def VC (n:Nat) (R:List An):Prop:=∃u B,R=u::B∧X4 n u
theorem VC.mono {n m:Nat} {R:List An} (h:VC n R) (hm:n≤m):VC m R:=by
 obtain ⟨u,B,e,hs⟩:=h;exact ⟨u,B,e,λh5=>⟨(hs h5).1,λk hk=>(hs h5).2 k (by omega)⟩⟩
theorem VS (n:Nat):VC n [Pz]:=⟨_,_,rfl,λh=>by cases h⟩
theorem UK (n:Nat) (B:List An):VC n (sg [41]::B):=⟨_,_,rfl,λ_=>⟨by decide,λm _ h4=>by
 have:∀m,m<4→(A8 m).findIdx? (λx=>decide (x=[41]))=none:=by decide
 exact this m h4⟩⟩
theorem WI (n:Nat) (B:List An):VC n (sg [44]::B):=⟨_,_,rfl,λ_=>⟨by decide,λm _ h4=>by
 have:∀m,m<4→(A8 m).findIdx? (λx=>decide (x=[44]))=none:=by decide
 exact this m h4⟩⟩
theorem Wh {T:List An} {s:Bv} {R:List An} {n m:Nat} (h:Left T s=R) (hf:VC n R) (hn:n≤m) (h4:m<4):Gf T s m=none:=by
 obtain ⟨u,B,rfl,hs⟩:=hf;obtain ⟨h1,h2,_⟩:=Dr h;unfold Gf
 split
 ·rename_i h5;rw [h2];exact (hs (by rw [←h1];exact h5)).2 m hn h4
 ·rfl
theorem WS:∀o,o<11→J5.getD o []≠[58]∧∃n,n<4∧BK (9+(o:Int))=n+1∧(∃i,(A8 n).findIdx? (λx=>decide (x=J5.getD o []))=some i∧(As n).getD i 0=9+(o:Int))∧∀m,m<4→n+1≤m→(A8 m).findIdx? (λx=>decide (x=J5.getD o []))=none:=by
 intro o ho;have:o=0∨o=1∨o=2∨o=3∨o=4∨o=5∨o=6∨o=7∨o=8∨o=9∨o=10:=by omega
 rcases this with rfl | rfl | rfl | rfl | rfl | rfl | rfl | rfl | rfl | rfl | rfl
 ·exact ⟨by decide,0,by decide,rfl,⟨0,rfl,rfl⟩,by decide⟩
 ·exact ⟨by decide,0,by decide,rfl,⟨1,rfl,rfl⟩,by decide⟩
 ·exact ⟨by decide,0,by decide,rfl,⟨2,rfl,rfl⟩,by decide⟩
 ·exact ⟨by decide,0,by decide,rfl,⟨3,rfl,rfl⟩,by decide⟩
 ·exact ⟨by decide,0,by decide,rfl,⟨4,rfl,rfl⟩,by decide⟩
 ·exact ⟨by decide,0,by decide,rfl,⟨5,rfl,rfl⟩,by decide⟩
 ·exact ⟨by decide,1,by decide,rfl,⟨0,rfl,rfl⟩,by decide⟩
 ·exact ⟨by decide,2,by decide,rfl,⟨0,rfl,rfl⟩,by decide⟩
 ·exact ⟨by decide,2,by decide,rfl,⟨1,rfl,rfl⟩,by decide⟩
 ·exact ⟨by decide,3,by decide,rfl,⟨0,rfl,rfl⟩,by decide⟩
 ·exact ⟨by decide,3,by decide,rfl,⟨1,rfl,rfl⟩,by decide⟩
theorem S6 {k:Int} (h0:9≤k) (h1:k≤19):EW k≠[58]∧∃n,n<4∧BK k=n+1∧(∃i,(A8 n).findIdx? (λx=>decide (x=EW k))=some i∧(As n).getD i 0=k)∧∀m,m<4→n+1≤m→(A8 m).findIdx? (λx=>decide (x=EW k))=none:=by
 have:=WS (k - 9).toNat (by omega);rw [show 9+(((k - 9).toNat:Nat):Int)=k by omega] at this;exact this
def DF {b:Bool} (t:Tr b) (w:List An) (s:Bv):Bv:=⟨s.at_+w.length,s.out++t.flat s.out.length,s.deep⟩
def plc (t:Tr false) (s:Bv):Nat:=s.out.length+t.cnt - 1
def IR (d:Nat) (t:Tr false) (w:List An) (s:Bv):Ho:=if s.deep+d≤12 then .ok (DF t w s) (plc t s) else .err 6
def W1 (t:Tr false) (d:Nat) (w:List An) (n:Nat):Prop:=∀(T:List An) (s:Bv) (R:List An) (r:Ho),s.deep≤12→Left T s=w++R→VC (n+1) R→
 (if s.deep+d≤12 then PE T (.loop n (plc t s)) (DF t w s) r else r=.err 6)→PE T (.lev n) s r
def Nq (t:Tr false) (d:Nat) (w:List An) (n:Nat):Prop:=∀(T:List An) (s:Bv) (R:List An),s.deep≤12→Left T s=w++R→VC n R→PE T (PR n) s (IR d t w s)
theorem W1.m {t:Tr false} {d:Nat} {w:List An} {n:Nat} (h:W1 t d w n) (hn:n<4):Nq t d w n:=by
 intro T s R hs hl hf;have e:PR n=.lev n:=by rw [PR,if_pos hn]
 rw [e];refine h T s R _ hs hl (hf.mono (by omega)) ?_;unfold IR
 split
 ·exact .loop_end (Wh (Bw hl rfl) hf (Nat.le_refl n) hn)
 ·rfl
theorem Nq.k {t:Tr false} {d:Nat} {w:List An} {n:Nat} (h:Nq t d w (n+1)) (hn:n<4):W1 t d w n:=by
 intro T s R r hs hl hf hr;have hp:=h T s R hs hl hf;rw [←RU hn] at hp;unfold IR at hp
 split at hp
 ·rename_i hd;rw [if_pos hd] at hr;exact .lev_ok hp hr
 ·rename_i hd;rw [if_neg hd] at hr;subst hr;exact .lev_err hp
theorem Nq.down {t:Tr false} {d:Nat} {w:List An} (h:Nq t d w 5) (hw:∃u v,w=u::v∧¬(u.kind=5∧u.text=[45])):∀k n,n+k=5→Nq t d w n:=by
 have hu:Nq t d w 4:=by
  intro T s R hs hl hf;obtain ⟨u,v,rfl,hv⟩:=hw;have hp:=h T s R hs hl (hf.mono (by omega));refine .un_prim ?_ hp;rw [CF hl];by_cases h5:u.kind=5
  ·have:¬u.text=[45]:=λe=>hv ⟨h5,e⟩;simp [this]
  ·simp [h5]
 intro k
 induction k with
 | zero=>intro n hn;rw [show n=5 by omega];exact h
 | succ k ih=>
  intro n hn;by_cases h4:n=4
  ·rw [h4];exact hu
  ·exact (Nq.k (ih (n+1) (by omega)) (by omega)).m (by omega)
theorem RX {t:Tr false} (h:Nq t t.need t.toks 0):Nq t (t.need+1) (sg [40]::(t.toks++[sg [41]])) 5:=by
 intro T s R hs hl hf;have hl:Left T s=sg [40]::(t.toks++(sg [41]::R)):=by rw [hl];simp
 have hi:BA T s [40]=true:=by rw [CF hl];rfl
 show PE T .prim s _;by_cases hd:s.deep<12
 ·have a0:Left T (Au (Ai s))=t.toks++(sg [41]::R):=Bw (w:=[sg [40]]) hl rfl;have hp:=h T (Au (Ai s)) (sg [41]::R) (by show s.deep+1≤12;omega) a0 (UK 0 R);unfold IR at hp ⊢;have a1:(Au (Ai s)).deep=s.deep+1:=rfl;rw [a1] at hp;by_cases hh:s.deep+1+t.need≤12
  ·rw [if_pos hh] at hp;rw [if_pos (by omega)];have a2:Left T (DF t t.toks (Au (Ai s)))=sg [41]::R:=Bw a0 rfl;have a3:BA T (DF t t.toks (Au (Ai s))) [41]=true:=by rw [CF a2];rfl
   have:=PE.pr_ok hi hd hp a3;have e:B0 (Ai (DF t t.toks (Au (Ai s))))=DF t (sg [40]::(t.toks++[sg [41]])) s:=by
    simp only [B0,Ai,DF,Au,Bv.mk.injEq,List.length_cons,List.length_append,List.length_nil];exact ⟨by omega,trivial,by omega⟩
   rw [e] at this;exact this
  ·rw [if_neg hh] at hp;rw [if_neg (by omega)];exact .pr_err hi hd hp
 ·unfold IR;rw [if_neg (by omega)];exact .pr_deep hi (by omega)
theorem S7 {t:Tr false} (h0:Nq t t.need t.toks 0) (hm:∀n,n+1≤t.rank→Nq t t.need t.toks n) {n:Nat} (hn:n≤5):Nq t (Ij (n+1) t.rank t.need) (brk (decide (t.rank<n+1)) t.toks) n:=by
 unfold Ij brk;by_cases hr:t.rank<n+1
 ·rw [if_pos hr,if_pos (by simpa using hr)];exact (RX h0).down ⟨_,_,rfl,by rintro ⟨_,e⟩;cases e⟩ (5 - n) n (by omega)
 ·rw [if_neg hr,if_neg (by simpa using hr)];exact hm n (by omega)
theorem Vl {t:Tr false} (h0:Nq t t.need t.toks 0) (hk:∀n,n<4→n+1≤t.rank→W1 t t.need t.toks n) {n:Nat} (hn:n<4):W1 t (Ij (n+1) t.rank t.need) (brk (decide (t.rank<n+1)) t.toks) n:=by
 unfold Ij brk;by_cases hr:t.rank<n+1
 ·rw [if_pos hr,if_pos (by simpa using hr)];exact ((RX h0).down ⟨_,_,rfl,by rintro ⟨_,e⟩;cases e⟩ (5 - (n+1)) (n+1) (by omega)).k hn
 ·rw [if_neg hr,if_neg (by simpa using hr)];exact hk n hn (by omega)
theorem Vq {k:Int} (h0:9≤k) (h1:k≤19):1≤BK k∧BK k≤4:=by
 obtain ⟨_,n,hn,e,_⟩:=S6 h0 h1;omega
theorem Tr.rank_le:∀(t:Tr false),t.Fit→1≤t.rank∧t.rank≤6
 | .leaf _,_=>by simp [Tr.rank]
 | .neg _,_=>by simp [Tr.rank]
 | .two k _ _,h=>by have:=Vq h.1 h.2.1;simp only [Tr.rank];omega
 | .call _ _,_=>by simp [Tr.rank]
theorem VX {n:Ag} (h0:1≤n.kind) (h1:n.kind≤6) (hk:n.kids=[]) (hp:Ar n=true):Nq (.leaf n) 0 (Ct n) 5:=by
 intro T s R hs hl hf;show PE T .prim s _;unfold IR;rw [if_pos (by omega)];have ho:=DN hp;have a2:plc (.leaf n) s=s.out.length:=by simp [plc,Tr.cnt]
 rw [a2];have hb:=hp;simp only [Ar,Bool.and_eq_true,decide_eq_true_eq] at hb;have a0:∀w:List An,DF (.leaf n) w s=Bs ⟨s.at_+w.length,s.out,s.deep⟩ n:=λw=>by simp [DF,Bs,Tr.flat]
 rw [a0];have:n.kind=1∨n.kind=2∨n.kind=3∨n.kind=4∨n.kind=5∨n.kind=6:=by omega
 rcases this with h | h | h | h | h | h<;>simp only [Ct,Fb,A6,h,if_true,if_false,Int.reduceEq,Bool.and_eq_true,decide_eq_true_eq,Bool.or_eq_true,true_and,and_true,List.cons_append,List.nil_append] at hl ho hb ⊢
 ·obtain ⟨t1,t2,t3,t4⟩:=Dr hl;have e:n={kind:=1,num:=(Aa T s).num}:=by cases n;simp_all
  rw [e];exact .pr_num t1
 ·obtain ⟨t1,t2,t3,t4⟩:=Dr hl;have e:n={kind:=2,text:=(Aa T s).text}:=by cases n;simp_all
  rw [e];exact .pr_text t1
 ·obtain ⟨t1,t2,t3,t4⟩:=Dr hl;rcases ho with ho | ho
  ·rw [if_neg (by omega)] at t2;have e:n={kind:=3}:=by cases n;simp_all
   rw [e];exact .pr_false t1 t2
  ·rw [if_pos ho] at t2;have e:n={kind:=3,num:=1}:=by cases n;simp_all
   rw [e];exact .pr_true t1 t2
 ·obtain ⟨t1,t2,t3,t4⟩:=Dr hl;have e:n={kind:=4}:=by cases n;simp_all
  rw [e];exact .pr_dead t1
 ·obtain ⟨t1,t2,t3,t4⟩:=Dr hl;have e:n={kind:=5,ref:=(Aa T s).ref}:=by cases n;simp_all
  rw [e];refine .pr_ref t1 ?_;obtain ⟨u,B,rfl,hu⟩:=hf;have a1:Left T (Ai s)=u::B:=Bw (w:=[_]) hl rfl;rw [CF a1];by_cases h5:u.kind=5
  ·simp [(hu h5).1]
  ·simp [h5]
 ·obtain ⟨t1,t2,t3,t4⟩:=Dr hl;have a1:Left T (Ai s)=sg [58]::⟨4,[],0,n.to,0⟩::R:=Bw (w:=[_]) hl rfl;have a3:Left T (Ai (Ai s))=⟨4,[],0,n.to,0⟩::R:=Bw (w:=[_]) a1 rfl;obtain ⟨q1,q2,q3,q4⟩:=Dr a3;have e:n={kind:=6,ref:=(Aa T s).ref,to:=(Aa T (Ai (Ai s))).ref}:=by cases n;simp_all
  have hr:Bq (Aa T s).ref (Aa T (Ai (Ai s))).ref=true:=by rw [t4,q4];exact ho.2.2
  have hi:BA T (Ai s) [58]=true:=by rw [CF a1];rfl
  rw [e];exact .pr_range t1 hi q1 hr
def X9 (ks:Tr true):Prop:=∀(T:List An) (s:Bv) (R:List An) (x:List UInt8) (k0:List Int) (r:Ho),s.deep≤12→Left T s=ks.toks++R→
 (if s.deep+ks.need≤12 then PE T (.args x (k0++ks.kids s.out.length)) (DF ks ks.toks s) r else r=.err 6)→PE T (.args x k0) s r
def W2:{b:Bool}→Tr b→Prop
 | false,t=>(∀n,n+1≤t.rank→Nq t t.need t.toks n)∧∀n,n<4→n+1≤t.rank→W1 t t.need t.toks n
 | true,ks=>X9 ks
theorem KB {x:List UInt8} (h:Cu x=true):x≠CK∧x≠C4:=by
 simp only [Cu,Bool.and_eq_true,Bool.not_eq_true',decide_eq_false_iff_not] at h;exact ⟨h.1.2,h.2⟩
theorem Rm {t:Tr false} (h5:Nq t t.need t.toks 5) (hw:∃u v,t.toks=u::v∧¬(u.kind=5∧u.text=[45])) (hr:t.rank=6):W2 t:=by
 have hd:=h5.down hw;refine ⟨λn hn=>hd (5 - n) n (by omega),λn hn _=>(hd (5 - (n+1)) (n+1) (by omega)).k hn⟩
theorem Sj {t:Tr false} {m:Nat} (hr:t.rank=m+1) (hm4:m≤4) (h:Nq t t.need t.toks m) (hk:m<4→W1 t t.need t.toks m):W2 t:=by
 have key:∀k n,n+k=m→Nq t t.need t.toks n:=by
  intro k
  induction k with
  | zero=>intro n hn;rw [show n=m by omega];exact h
  | succ k ih=>intro n hn;exact (Nq.k (ih (n+1) (by omega)) (by omega)).m (by omega)
 refine ⟨λn hn=>key (m - n) n (by omega),λn hn h1=>?_⟩;by_cases e:n=m
 ·subst e;exact hk hn
 ·exact (key (m - (n+1)) (n+1) (by omega)).k hn
def Ja (l:List An):Prop:=∃u v,l=u::v∧¬(u.kind=5∧u.text=[41])
theorem Ja.app {l:List An} (h:Ja l) (m:List An):Ja (l++m):=by
 obtain ⟨u,v,rfl,hu⟩:=h;exact ⟨u,v++m,rfl,hu⟩
theorem Ja.brk {l:List An} (h:Ja l) (b:Bool):Ja (Go.Proofs.YtefaigjfkddelaaGreatDoor.brk b l):=by
 unfold Go.Proofs.YtefaigjfkddelaaGreatDoor.brk
 split
 ·exact ⟨_,_,rfl,by rintro ⟨_,e⟩;cases e⟩
 ·exact h
theorem Tr.first:∀{b:Bool} (t:Tr b),t.Fit→(b=true∧t.toks=[])∨Ja t.toks
 | _,.leaf n,hf=>by
  obtain ⟨u,m,e,hk,_⟩:=Gr hf.1 hf.2.1
  exact .inr ⟨u,m,e,λh=>hk h.1⟩
 | _,.neg a,_=>.inr ⟨_,_,rfl,by rintro ⟨_,e⟩;cases e⟩
 | _,.two k a b,hf=>by
  rcases first a hf.2.2.1 with h | h
  ·cases h.1
  ·exact .inr ((h.brk _).app _)
 | _,.call x .nil,_=>.inr ⟨_,_,rfl,by rintro ⟨e,_⟩;cases e⟩
 | _,.call x (.snoc rs a),_=>.inr ⟨_,_,rfl,by rintro ⟨e,_⟩;cases e⟩
 | _,.nil,_=>.inl ⟨rfl,rfl⟩
 | _,.snoc rs a,hf=>by
  rcases first a hf.2 with h | h
  ·cases h.1
  ·rcases first rs hf.1 with h2 | h2
   ·refine .inr ?_;simp only [Tr.toks,h2.2,List.nil_append];exact h.app _
   ·exact .inr (h2.app _)
theorem Tj {T:List An} {s:Bv} {l:List An} (h:Ja l) (hl:Left T s=l):BA T s [41]=false:=by
 obtain ⟨u,v,rfl,hu⟩:=h;rw [CF hl];by_cases h5:u.kind=5
 ·have:¬u.text=[41]:=λe=>hu ⟨h5,e⟩;simp [this]
 ·simp [h5]
theorem Tr.go:∀{b:Bool} (t:Tr b),t.Fit→W2 t
 | _,.leaf n,hf=>by
  obtain ⟨u,m,e,hk,_⟩:=Gr hf.1 hf.2.1
  exact Rm (VX hf.1 hf.2.1 hf.2.2.1 hf.2.2.2) ⟨u,m,e,λh=>hk h.1⟩ rfl
 | _,.neg a,hf=>by
  have ga:W2 a:=go a hf;have hr:=Tr.rank_le a hf;have hop:Nq a (Ij 5 a.rank a.need) (brk (decide (a.rank<5)) a.toks) 4:=S7 (ga.1 0 (by omega)) ga.1 (n:=4) (by omega);refine Sj (m:=4) rfl (Nat.le_refl _) ?_ (λh=>absurd h (by omega));intro T s R hs hl hfol;have hl:Left T s=sg [45]::(brk (decide (a.rank<5)) a.toks++R):=hl;have hi:BA T s [45]=true:=by rw [CF hl];rfl
  show PE T .unary s _;have a0:(Tr.neg a).need=Ij 5 a.rank a.need+1:=rfl;by_cases hd:s.deep<12
  ·have a1:Left T (Au (Ai s))=brk (decide (a.rank<5)) a.toks++R:=Bw (w:=[_]) hl rfl;have hp:=hop T (Au (Ai s)) R (by show s.deep+1≤12;omega) a1 hfol;unfold IR at hp ⊢;have a6:(Au (Ai s)).deep=s.deep+1:=rfl;rw [a6] at hp;rw [a0];by_cases hh:s.deep+1+Ij 5 a.rank a.need≤12
   ·rw [if_pos hh] at hp;rw [if_pos (by omega)];have:=PE.un_ok hi hd hp;have e:Bs (B0 (DF a (brk (decide (a.rank<5)) a.toks) (Au (Ai s)))) {kind:=8,kids:=[((plc a (Au (Ai s)):Nat):Int)]}=DF (.neg a) (Tr.neg a).toks s:=by
     simp only [Bs,B0,DF,Au,Ai,Tr.flat,Tr.toks,Bv.mk.injEq,List.length_cons,List.append_assoc,plc];exact ⟨by omega,trivial,by omega⟩
    have e2:(DF a (brk (decide (a.rank<5)) a.toks) (Au (Ai s))).out.length=plc (.neg a) s:=by
     simp only [DF,Au,Ai,plc,Tr.cnt,List.length_append,Tr.flat_len];omega
    rw [e,e2] at this;exact this
   ·rw [if_neg hh] at hp;rw [if_neg (by omega)];exact .un_err hi hd hp
  ·unfold IR;rw [if_neg (by omega)]
   exact .un_deep hi (by omega)
 | _,.two k a b,hf=>by
  have ga:W2 a:=go a hf.2.2.1;have gb:W2 b:=go b hf.2.2.2;have ra:=Tr.rank_le a hf.2.2.1;have rb:=Tr.rank_le b hf.2.2.2;obtain ⟨aj,n,hn,ac,⟨i,hi,ak⟩,al⟩:=S6 hf.1 hf.2.1;have hA:=Vl (ga.1 0 (by omega)) ga.2 hn;have hB:=S7 (gb.1 0 (by omega)) gb.1 (n:=n+1) (by omega);have a0:(Tr.two k a b).need=max (Ij (n+1) a.rank a.need) (Ij (n+1+1) b.rank b.need):=by simp only [Tr.need,ac]
  have a2:(Tr.two k a b).toks=brk (decide (a.rank<n+1)) a.toks++sg (EW k)::brk (decide (b.rank<n+1+1)) b.toks:=by simp only [Tr.toks,ac]
  have hK:W1 (.two k a b) (Tr.two k a b).need (Tr.two k a b).toks n:=by
   intro T s R r hs hl hfol hr;rw [a2,List.append_assoc,List.cons_append] at hl;have am:VC (n+1) (sg (EW k)::(brk (decide (b.rank<n+1+1)) b.toks++R)):=⟨_,_,rfl,λ_=>⟨aj,λm h1 h2=>al m h2 h1⟩⟩;refine hA T s _ r hs hl am ?_
   split
   ·rename_i a3;have a1:Left T (DF a (brk (decide (a.rank<n+1)) a.toks) s)=sg (EW k)::(brk (decide (b.rank<n+1+1)) b.toks++R):=Bw hl rfl;obtain ⟨t1,t2,_⟩:=Dr a1;have hop:Gf T (DF a (brk (decide (a.rank<n+1)) a.toks) s) n=some i:=by
     unfold Gf;rw [if_pos (show _=(5:Int) from t1),t2];exact hi
    have a4:Left T (Ai (DF a (brk (decide (a.rank<n+1)) a.toks) s))=brk (decide (b.rank<n+1+1)) b.toks++R:=Bw (w:=[_]) a1 rfl;have hp:=hB T (Ai (DF a (brk (decide (a.rank<n+1)) a.toks) s)) R hs a4 hfol;rw [←RU hn] at hp;unfold IR at hp;have a6:(Ai (DF a (brk (decide (a.rank<n+1)) a.toks) s)).deep=s.deep:=rfl;rw [a6] at hp;by_cases ai:s.deep+Ij (n+1+1) b.rank b.need≤12
    ·rw [if_pos ai] at hp;rw [if_pos (by rw [a0];omega)] at hr;refine .loop_go hop hp ?_;rw [ak];have e:Bs (DF b (brk (decide (b.rank<n+1+1)) b.toks) (Ai (DF a (brk (decide (a.rank<n+1)) a.toks) s))) {kind:=k,kids:=[((plc a s:Nat):Int),((plc b (Ai (DF a (brk (decide (a.rank<n+1)) a.toks) s)):Nat):Int)]}=DF (.two k a b) (Tr.two k a b).toks s:=by
      rw [a2];simp only [Bs,DF,Ai,Tr.flat,Bv.mk.injEq,List.length_append,List.length_cons,List.append_assoc,plc,Tr.flat_len];exact ⟨by omega,trivial,trivial⟩
     have e2:(DF b (brk (decide (b.rank<n+1+1)) b.toks) (Ai (DF a (brk (decide (a.rank<n+1)) a.toks) s))).out.length=plc (.two k a b) s:=by
      simp only [DF,Ai,plc,Tr.cnt,List.length_append,Tr.flat_len];omega
     rw [e,e2];exact hr
    ·rw [if_neg ai] at hp;rw [if_neg (by rw [a0];omega)] at hr;subst hr;exact .loop_err hop hp
   ·rename_i a3;rw [if_neg (by rw [a0];omega)] at hr;exact hr
  exact Sj (m:=n) (by simp only [Tr.rank,ac]) (by omega) (hK.m hn) (λ_=>hK)
 | _,.call x .nil,hf=>by
  obtain ⟨a7,a8⟩:=KB hf.1;refine Rm ?_ ⟨_,_,rfl,by rintro ⟨e,_⟩;cases e⟩ rfl;intro T s R hs hl hfol;have hl:Left T s=⟨3,x,0,A3,0⟩::sg [40]::sg [41]::R:=hl;obtain ⟨t1,t2,_⟩:=Dr hl;have a1:Left T (Ai s)=sg [40]::sg [41]::R:=Bw (w:=[_]) hl rfl;have a4:Left T (Au (Ai (Ai s)))=sg [41]::R:=Bw (w:=[_]) a1 rfl;have a9:BA T (Ai s) [40]=true:=by rw [CF a1];rfl
  have ad:BA T (Au (Ai (Ai s))) [41]=true:=by rw [CF a4];rfl
  show PE T .prim s _;unfold IR;by_cases hd:s.deep<12
  ·rw [if_pos (by show s.deep+1≤12;omega)];have:=PE.pr_call0 t1 (by rw [t2];exact a7) (by rw [t2];exact a8) a9 hd ad;rw [t2] at this;exact this
  ·rw [if_neg (by show ¬s.deep+1≤12;omega)]
   exact .pr_calldeep t1 (by rw [t2];exact a7) (by rw [t2];exact a8) a9 (by omega)
 | _,.call x (.snoc rs a),hf=>by
  obtain ⟨a7,a8⟩:=KB hf.1;have gr:X9 rs:=go rs hf.2.1;have ga:W2 a:=go a hf.2.2;have ra:=Tr.rank_le a hf.2.2;have a5:Ja (rs.toks++(a.toks++[sg [41]])):=by
   rcases Tr.first a hf.2.2 with h | h
   ·cases h.1
   ·rcases Tr.first rs hf.2.1 with h2 | h2
    ·rw [h2.2,List.nil_append];exact h.app _
    ·exact h2.app _
  refine Rm ?_ ⟨_,_,rfl,by rintro ⟨e,_⟩;cases e⟩ rfl;intro T s R hs hl hfol;have hl:Left T s=⟨3,x,0,A3,0⟩::sg [40]::(rs.toks++(a.toks++(sg [41]::R))):=by rw [hl];simp [Tr.toks]
  obtain ⟨t1,t2,_⟩:=Dr hl;have a1:Left T (Ai s)=sg [40]::(rs.toks++(a.toks++(sg [41]::R))):=Bw (w:=[_]) hl rfl;have a4:Left T (Au (Ai (Ai s)))=rs.toks++(a.toks++(sg [41]::R)):=Bw (w:=[_]) a1 rfl;have a9:BA T (Ai s) [40]=true:=by rw [CF a1];rfl
  have ad:BA T (Au (Ai (Ai s))) [41]=false:=by
   refine Tj (a5.app R) ?_;rw [a4];simp
  have a0:(Tr.call x (.snoc rs a)).need=max rs.need a.need+1:=rfl;show PE T .prim s _;unfold IR;by_cases hd:s.deep<12
  ·refine .pr_call t1 (by rw [t2];exact a7) (by rw [t2];exact a8) a9 hd ad ?_;rw [t2];refine gr T (Au (Ai (Ai s))) _ x [] _ (by show s.deep+1≤12;omega) a4 ?_;have a6:(Au (Ai (Ai s))).deep=s.deep+1:=rfl;rw [a6,a0]
   split
   ·rename_i ae;have aa:Left T (DF rs rs.toks (Au (Ai (Ai s))))=a.toks++(sg [41]::R):=Bw a4 rfl;have hp:=ga.1 0 (by omega) T (DF rs rs.toks (Au (Ai (Ai s)))) _ (by show s.deep+1≤12;omega) aa (UK 0 R);unfold IR at hp;have af:(DF rs rs.toks (Au (Ai (Ai s)))).deep=s.deep+1:=rfl;rw [af] at hp;by_cases a3:s.deep+1+a.need≤12
    ·rw [if_pos a3] at hp;rw [if_pos (by omega)];have ab:Left T (DF a a.toks (DF rs rs.toks (Au (Ai (Ai s)))))=sg [41]::R:=Bw aa rfl;have ag:BA T (DF a a.toks (DF rs rs.toks (Au (Ai (Ai s))))) [44]=false:=by rw [CF ab];rfl
     have ah:BA T (DF a a.toks (DF rs rs.toks (Au (Ai (Ai s))))) [41]=true:=by rw [CF ab];rfl
     have:=PE.ar_end (x:=x) (ks:=[]++rs.kids (Au (Ai (Ai s))).out.length) hp ag ah;have e:Bs (B0 (Ai (DF a a.toks (DF rs rs.toks (Au (Ai (Ai s))))))) {kind:=7,text:=x,kids:=[]++rs.kids (Au (Ai (Ai s))).out.length++[((plc a (DF rs rs.toks (Au (Ai (Ai s)))):Nat):Int)]}=DF (.call x (.snoc rs a)) (Tr.call x (.snoc rs a)).toks s:=by
      simp only [Bs,B0,DF,Au,Ai,Tr.flat,Tr.toks,Tr.kids,Bv.mk.injEq,List.length_cons,List.length_append,List.length_nil,List.append_assoc,plc,Tr.flat_len,List.nil_append];exact ⟨by omega,trivial,by omega⟩
     have e2:(DF a a.toks (DF rs rs.toks (Au (Ai (Ai s))))).out.length=plc (.call x (.snoc rs a)) s:=by
      simp only [DF,Au,Ai,plc,Tr.cnt,List.length_append,Tr.flat_len];omega
     rw [e,e2] at this;exact this
    ·rw [if_neg a3] at hp;rw [if_neg (by omega)];exact .ar_err hp
   ·rename_i ae;rw [if_neg (by omega)]
  ·rw [if_neg (by omega)]
   exact .pr_calldeep t1 (by rw [t2];exact a7) (by rw [t2];exact a8) a9 (by omega)
 | _,.nil,_=>by
  intro T s R x k0 r hs hl hr;have e:DF Tr.nil Tr.nil.toks s=s:=by simp [DF,Tr.toks,Tr.flat]
  rw [e,if_pos (by show s.deep+0≤12;omega)] at hr
  simpa [Tr.kids] using hr
 | _,.snoc rs a,hf=>by
  have gr:X9 rs:=go rs hf.1;have ga:W2 a:=go a hf.2;have ra:=Tr.rank_le a hf.2;intro T s R x k0 r hs hl hr;have hl:Left T s=rs.toks++(a.toks++(sg [44]::R)):=by rw [hl];simp [Tr.toks]
  have a0:(Tr.snoc rs a).need=max rs.need a.need:=rfl;rw [a0] at hr;refine gr T s _ x k0 r hs hl ?_
  split
  ·rename_i ae;have aa:Left T (DF rs rs.toks s)=a.toks++(sg [44]::R):=Bw hl rfl;have hp:=ga.1 0 (by omega) T (DF rs rs.toks s) _ hs aa (WI 0 R);unfold IR at hp;have af:(DF rs rs.toks s).deep=s.deep:=rfl;rw [af] at hp;by_cases a3:s.deep+a.need≤12
   ·rw [if_pos a3] at hp;rw [if_pos (by omega)] at hr;have ab:Left T (DF a a.toks (DF rs rs.toks s))=sg [44]::R:=Bw aa rfl;have ag:BA T (DF a a.toks (DF rs rs.toks s)) [44]=true:=by rw [CF ab];rfl
    refine .ar_go hp ag ?_;have e:Ai (DF a a.toks (DF rs rs.toks s))=DF (.snoc rs a) (Tr.snoc rs a).toks s:=by
     simp only [DF,Ai,Tr.flat,Tr.toks,Bv.mk.injEq,List.length_cons,List.length_append,List.length_nil,List.append_assoc,Tr.flat_len];exact ⟨by omega,trivial,trivial⟩
    have e2:k0++rs.kids s.out.length++[((plc a (DF rs rs.toks s):Nat):Int)]=k0++(Tr.snoc rs a).kids s.out.length:=by
     simp only [DF,plc,Tr.kids,List.length_append,Tr.flat_len,List.append_assoc]
    rw [e,e2];exact hr
   ·rw [if_neg a3] at hp;rw [if_neg (by omega)] at hr;subst hr;exact .ar_err hp
  ·rename_i ae;rw [if_neg (by omega)] at hr;exact hr
theorem Tr.again (t:Tr false) (hf:t.Fit) {T:List An} (hT:T.map nA=t.toks++[Pz]):D8 T (if t.need≤12 then .ok (t.flat 0) else .error 6):=by
 have hg:=(t.go hf).1 0 (by have:=Tr.rank_le t hf;omega) T ⟨0,[],0⟩ [Pz] (by simp) hT (VS 0);have hg:PE T (.lev 0) ⟨0,[],0⟩ (IR t.need t t.toks ⟨0,[],0⟩):=hg;unfold IR at hg;simp only [Nat.zero_add] at hg;by_cases h:t.need≤12
 ·rw [if_pos h] at hg ⊢;refine ⟨_,_,hg,?_,by simp [DF]⟩;have:Left T (DF t t.toks ⟨0,[],0⟩)=[Pz]:=Bw (s:=⟨0,[],0⟩) (w:=t.toks) hT rfl;exact (Dr this).1
 ·rw [if_neg h] at hg ⊢;exact .inl hg
def W (l:List An):Nat:=(l.flatMap BO).length
theorem Jf:W []=0:=rfl
theorem CY (t:An) (l:List An):W (t::l)=(BO t).length+W l:=by simp [W]
theorem Je (l m:List An):W (l++m)=W l+W m:=by simp [W]
theorem LF (s:List UInt8):(BO (sg s)).length=s.length:=rfl
theorem Ux (b:Bool) (l:List An):W (brk b l)=W l+if b then 2 else 0:=by
 cases b
 ·simp [brk]
 ·simp only [brk,if_true,CY,Je,Jf,LF,List.length_cons,List.length_nil];omega
def pw (T:List An) (i:Nat):Nat:=W (T.take i)
theorem Wm (T:List An) (i:Nat):pw T (i+1)=pw T i+(BO (T.getD i V4)).length:=by
 unfold pw;rcases Nat.lt_or_ge i T.length with h | h
 ·rw [List.take_add_one,List.getElem?_eq_getElem h,Je,List.getD_eq_getElem?_getD,List.getElem?_eq_getElem h];simp [W]
 ·rw [List.take_of_length_le h,List.take_of_length_le (by omega),List.getD_eq_getElem?_getD,List.getElem?_eq_none h];rfl
theorem CJ (T:List An) (s:Bv):pw T (s.at_+1)=pw T s.at_+(BO (Aa T s)).length:=Wm T s.at_
theorem Xz (T:List An) (i:Nat):pw T i≤W T:=by
 have:=Je (T.take i) (T.drop i);rw [List.take_append_drop] at this;unfold pw;omega
theorem H8 (t:Tr false) (L:Nat):W (t.opt L)=W t.toks+if t.rank<L then 2 else 0:=by
 rw [Tr.opt,Ux];by_cases h:t.rank<L<;>simp [h]
theorem XM {t:An} (h:Fw t) (k:t.kind=1):t=⟨1,[],t.num,A3,0⟩∧0≤t.num∧t.num≤9223372036854775807:=by
 cases h<;>simp_all [sg]
theorem XN {t:An} (h:Fw t) (k:t.kind=2):t=⟨2,t.text,0,A3,0⟩∧KE t.text=true:=by
 cases h<;>simp_all [sg]
theorem X7 {t:An} (h:Fw t) (k:t.kind=3):t=⟨3,t.text,0,A3,0⟩∧JN t.text=true∧AZ t.text=false:=by
 cases h<;>simp_all [sg]
theorem Xb {t:An} (h:Fw t) (k:t.kind=4):t=⟨4,[],0,t.ref,0⟩∧AP t.ref=true:=by
 cases h<;>simp_all [sg]
theorem XO {t:An} (h:Fw t) (k:t.kind=6):t=⟨6,[],0,A3,0⟩:=by
 cases h<;>simp_all [sg]
def Xg (T:List An):Prop:=∀t∈T,nA t=Pz∨Fw (nA t)
theorem FV {T:List An} (h:Xg T) {s:Bv} (hk:(Aa T s).kind≠0):Fw (nA (Aa T s)):=by
 rcases Nat.lt_or_ge s.at_ T.length with hl | hl
 ·have e:Aa T s=T[s.at_]:=by simp [Aa,List.getD_eq_getElem?_getD,List.getElem?_eq_getElem hl]
  rw [e] at hk ⊢;rcases h _ (List.getElem_mem hl) with h | h
  ·have:(nA T[s.at_]).kind=0:=by rw [h];rfl
   exact absurd this hk
  ·exact h
 ·have e:Aa T s=V4:=by simp [Aa,List.getD_eq_getElem?_getD,List.getElem?_eq_none hl]
  rw [e] at hk;exact absurd rfl hk
theorem EZ {T:List An} {s:Bv} {x:List UInt8} (h:BA T s x=true):(BO (Aa T s)).length=x.length:=by
 obtain ⟨h1,h2⟩:=Ec h;simp [BO,h1,h2]
theorem Qi:∀n,n<4→∀i,i<(A8 n).length→9≤(As n).getD i 0∧(As n).getD i 0≤19∧BK ((As n).getD i 0)=n+1∧EW ((As n).getD i 0)=(A8 n).getD i []:=by decide
theorem Wi {T:List An} {s:Bv} {n i:Nat} (hn:n<4) (h:Gf T s n=some i):9≤(As n).getD i 0∧(As n).getD i 0≤19∧BK ((As n).getD i 0)=n+1∧(BO (Aa T s)).length=(EW ((As n).getD i 0)).length:=by
 unfold Gf at h
 split at h
 ·rename_i h5;obtain ⟨hi,hp,_⟩:=List.findIdx?_eq_some_iff_getElem.1 h;obtain ⟨a1,a2,a3,a4⟩:=Qi n hn i hi;refine ⟨a1,a2,a3,?_⟩;have ht:(A8 n)[i]=(Aa T s).text:=by simpa using hp
  rw [a4,List.getD_eq_getElem?_getD,List.getElem?_eq_getElem hi];simp [BO,h5,ht]
 ·cases h
structure Rt (T:List An) (L:Nat) (s s1:Bv) (b:Nat) (t:Tr false):Prop where
 fit:t.Fit
 num:t.Num
 out:s1.out=s.out++t.flat s.out.length
 plc:b=s.out.length+t.cnt - 1
 deep:s1.deep=s.deep
 need:s.deep+Ij L t.rank t.need≤12
 wid:W (t.opt L)+pw T s.at_≤pw T s1.at_
structure Lt (T:List An) (n:Nat) (s s1:Bv) (b:Nat) (o:List Ag) (ta t:Tr false):Prop where
 fit:t.Fit
 num:t.Num
 out:s1.out=o++t.flat o.length
 plc:b=o.length+t.cnt - 1
 deep:s1.deep=s.deep
 need:s.deep+Ij (n+1) t.rank t.need≤12
 wid:W (t.opt (n+1))+pw T s.at_≤W (ta.opt (n+1))+pw T s1.at_
structure At (T:List An) (s s1:Bv) (b:Nat) (o:List Ag) (x:List UInt8) (rs:Tr true) (r1:Tr true) (a1:Tr false):Prop where
 fit:(Tr.call x (.snoc r1 a1)).Fit
 num:r1.Num∧a1.Num
 out:s1.out=o++(Tr.call x (.snoc r1 a1)).flat o.length
 plc:b=o.length+(Tr.call x (.snoc r1 a1)).cnt - 1
 deep:s1.deep=s.deep - 1
 need:s.deep+(Tr.snoc r1 a1).need≤12
 wid:W r1.toks+W a1.toks+1+pw T s.at_≤W rs.toks+pw T s1.at_
def Xk (T:List An) (m:DE) (s:Bv):Ho→Prop
 | .err _=>True
 | .ok s1 b=>s.deep≤12→match m with
  | .lev n=>n<4→∃t,Rt T (n+1) s s1 b t
  | .unary=>∃t,Rt T 5 s s1 b t
  | .prim=>∃t,Rt T 6 s s1 b t
  | .loop n a=>n<4→∀o (ta:Tr false),ta.Fit→ta.Num→s.out=o++ta.flat o.length→a=o.length+ta.cnt - 1→s.deep+Ij (n+1) ta.rank ta.need≤12→∃t,Lt T n s s1 b o ta t
  | .args x ks=>∀o (rs:Tr true),Cu x=true→rs.Fit→rs.Num→s.out=o++rs.flat o.length→ks=rs.kids o.length→s.deep+rs.need≤12→1≤s.deep→∃r1 a1,At T s s1 b o x rs r1 a1
theorem Vk {L L' r d:Nat} (h:L≤L'):Ij L r d≤Ij L' r d:=by
 unfold Ij
 split<;>split<;>omega
theorem WU (L r d:Nat):Ij L r d≤d+1:=by
 unfold Ij
 split<;>omega
theorem OG (L r d:Nat):d≤Ij L r d:=by
 unfold Ij
 split<;>omega
theorem TE (t:Tr false) {L L':Nat} (h:L≤L'):W (t.opt L)≤W (t.opt L'):=by
 rw [H8,H8]
 split<;>split<;>omega
theorem Rt.low {T:List An} {L L':Nat} {s s1:Bv} {b:Nat} {t:Tr false} (h:Rt T L s s1 b t) (hl:L'≤L):Rt T L' s s1 b t:=
 ⟨h.fit,h.num,h.out,h.plc,h.deep,by have:=Vk (r:=t.rank) (d:=t.need) hl;have:=h.need;omega,by have:=TE t hl;have:=h.wid;omega⟩
theorem ML {T:List An} {n:Nat} (hn:n<4) {s s1:Bv} {a:Nat} (h:Xk T (below n) s (.ok s1 a)) (hd:s.deep≤12):∃t,Rt T (n+2) s s1 a t:=by
 unfold below at h
 split at h
 ·exact h hd (by omega)
 ·have e:n=3:=by omega
  subst e;exact h hd
theorem Rt.leaf {T:List An} {s s1:Bv} {n:Ag} (k:Int) (hkk:n.kind=k) (h0:1≤k) (h1:k≤6) (hk:n.kids=[]) (hp:Ar n=true) (hn:∀k∈Ct n,k.num≤9223372036854775807) (hd:s.deep≤12) (ho:s1.out=s.out++[n]) (hdd:s1.deep=s.deep) (hw:W (Ct n)+pw T s.at_≤pw T s1.at_):∃t,Rt T 6 s s1 s.out.length t:=by
 refine ⟨.leaf n,⟨by omega,by omega,hk,hp⟩,hn,ho,by simp [Tr.cnt],hdd,hd,?_⟩;rw [H8]
 simpa [Tr.rank,Tr.toks] using hw
theorem S4 {a:Tr false} (h:a.Num):(Tr.neg a).Num:=λk hk=>by
 simp only [Tr.toks,List.mem_cons] at hk;rcases hk with rfl | hk
 ·decide
 ·rcases EY hk with hk | rfl | rfl
  ·exact h k hk
  ·decide
  ·decide
theorem S5 {o:Int} {a b:Tr false} (h:a.Num) (h':b.Num):(Tr.two o a b).Num:=λk hk=>by
 simp only [Tr.toks,List.mem_append,List.mem_cons] at hk;rcases hk with hk | rfl | hk
 ·rcases EY hk with hk | rfl | rfl
  ·exact h k hk
  ·decide
  ·decide
 ·show (0:Int)≤_;decide
 ·rcases EY hk with hk | rfl | rfl
  ·exact h' k hk
  ·decide
  ·decide
theorem PZ {rs:Tr true} {a:Tr false} (h:rs.Num) (h':a.Num):(Tr.snoc rs a).Num:=λk hk=>by
 simp only [Tr.toks,List.mem_append,List.mem_cons,List.not_mem_nil,or_false] at hk;rcases hk with hk | hk | rfl
 ·exact h k hk
 ·exact h' k hk
 ·decide
theorem PW {x:List UInt8} {rs:Tr true} {a:Tr false} (h:rs.Num) (h':a.Num):(Tr.call x (.snoc rs a)).Num:=λk hk=>by
 simp only [Tr.toks,List.mem_cons,List.mem_append,List.not_mem_nil,or_false] at hk;rcases hk with rfl | rfl | hk | hk | rfl
 ·show (0:Int)≤_;decide
 ·decide
 ·exact h k hk
 ·exact h' k hk
 ·decide
theorem PE.trees {T:List An} (hT:Xg T) {m:DE} {s:Bv} {r:Ho} (h:PE T m s r):Xk T m s r:=by
 induction h with
 | lev_err _ _=>trivial
 | @lev_ok n s s1 a r _ _ ih1 ih2=>
  cases r with
  | err e=>trivial
  | ok s2 b=>
   intro hd hn;obtain ⟨t,h1⟩:=ML hn ih1 hd;have h1:=h1.low (show n+1≤n+2 by omega);obtain ⟨u,h2⟩:=ih2 (by rw [h1.deep];exact hd) hn s.out t h1.fit h1.num h1.out h1.plc (by rw [h1.deep];exact h1.need)
   exact ⟨u,h2.fit,h2.num,h2.out,h2.plc,h2.deep.trans h1.deep,by rw [←h1.deep];exact h2.need,by have:=h1.wid;have:=h2.wid;omega⟩
 | @loop_end n s a _=>exact λhd hn o ta h1 h2 h3 h4 h5=>⟨ta,h1,h2,h3,h4,rfl,h5,Nat.le_refl _⟩
 | loop_err _ _ _=>trivial
 | @loop_go n s a i s1 b r hi _ _ ih1 ih2=>
  cases r with
  | err e=>trivial
  | ok s2 c=>
   intro hd hn o ta h1 h2 h3 h4 h5;obtain ⟨k0,k1,k2,k3⟩:=Wi hn hi;obtain ⟨tb,hb⟩:=ML hn ih1 hd;have ag:s1.out=s.out++tb.flat s.out.length:=hb.out;have a9:s1.deep=s.deep:=hb.deep;have al:s.deep+Ij (n+2) tb.rank tb.need≤12:=hb.need;have ai:b=s.out.length+tb.cnt - 1:=hb.plc;have am:W (tb.opt (n+2))+pw T (s.at_+1)≤pw T s1.at_:=hb.wid;have a5:s.out.length=o.length+ta.cnt:=by rw [h3,List.length_append,Tr.flat_len]
   have a6:(Tr.two ((As n).getD i 0) ta tb).need=max (Ij (n+1) ta.rank ta.need) (Ij (n+2) tb.rank tb.need):=by simp only [Tr.need,k2]
   have a2:(Tr.two ((As n).getD i 0) ta tb).rank=n+1:=k2;have aa:Ij (n+1) (Tr.two ((As n).getD i 0) ta tb).rank (Tr.two ((As n).getD i 0) ta tb).need=max (Ij (n+1) ta.rank ta.need) (Ij (n+2) tb.rank tb.need):=by
    unfold Ij;rw [a2,if_neg (by omega),a6];rfl
   have hW:W ((Tr.two ((As n).getD i 0) ta tb).opt (n+1))=W (ta.opt (n+1))+(EW ((As n).getD i 0)).length+W (tb.opt (n+2)):=by
    have e2:tb.opt (n+2)=brk (decide (tb.rank<n+1+1)) tb.toks:=rfl;have e1:ta.opt (n+1)=brk (decide (ta.rank<n+1)) ta.toks:=rfl;rw [H8,a2,if_neg (by omega),e1,e2];simp only [Tr.toks,Je,CY,LF,k2];omega
   have a0:=CJ T s;obtain ⟨t,h⟩:=ih2 (by show s1.deep≤12;omega) hn o (.two ((As n).getD i 0) ta tb) ⟨k0,k1,h1,hb.fit⟩ (S5 h2 hb.num) (by
    show s1.out++[_]=_;rw [ag,ai,h3,h4];simp only [Tr.flat,List.append_assoc,List.length_append,Tr.flat_len]) (by
    show s1.out.length=_;rw [ag,List.length_append,Tr.flat_len,a5];simp only [Tr.cnt];omega) (by
    show s1.deep+_≤12;rw [aa,a9];omega)
   have e1:(Bs s1 {kind:=(As n).getD i 0,kids:=[(a:Int),(b:Int)]}).deep=s1.deep:=rfl;have e2:(Bs s1 {kind:=(As n).getD i 0,kids:=[(a:Int),(b:Int)]}).at_=s1.at_:=rfl;refine ⟨t,h.fit,h.num,h.out,h.plc,by rw [h.deep,e1,a9],by have:=h.need;rw [e1,a9] at this;exact this,?_⟩;have:=h.wid;rw [e2,hW] at this
   omega
 | @un_prim s r _ _ ih=>
  cases r with
  | err e=>trivial
  | ok s2 b=>
   intro hd;obtain ⟨t,h⟩:=ih hd
   exact ⟨t,h.low (by omega)⟩
 | un_deep _ _=>trivial
 | un_err _ _ _ _=>trivial
 | @un_ok s s1 a hi hd _ ih=>
  intro _;obtain ⟨t,h⟩:=ih (by show s.deep+1≤12;omega);have ho:s1.out=s.out++t.flat s.out.length:=h.out;have a7:s1.deep=s.deep+1:=h.deep;have a8:s.deep+1+Ij 5 t.rank t.need≤12:=h.need;have hp:a=s.out.length+t.cnt - 1:=h.plc;have hw:W (t.opt 5)+pw T (s.at_+1)≤pw T s1.at_:=h.wid;have a0:=CJ T s;have hc:=EZ hi;simp only [List.length_cons,List.length_nil] at hc;refine ⟨.neg t,h.fit,S4 h.num,?_,?_,?_,?_,?_⟩
  ·show s1.out++[_]=_;rw [ho,hp];simp only [Tr.flat,List.append_assoc]
  ·rw [ho,List.length_append,Tr.flat_len];simp only [Tr.cnt];omega
  ·show s1.deep - 1=s.deep;omega
  ·have:Ij 5 (Tr.neg t).rank (Tr.neg t).need=Ij 5 t.rank t.need+1:=rfl;rw [this];omega
  ·have:W ((Tr.neg t).opt 5)=1+W (t.opt 5):=by
    rw [H8 (.neg t)];simp only [Tr.rank,Tr.toks,CY,LF,Tr.opt,List.length_cons,List.length_nil];rfl
   rw [this];show _≤pw T s1.at_
   omega
 | pr_sign _ _=>trivial
 | pr_deep _ _=>trivial
 | pr_err _ _ _ _=>trivial
 | pr_open _ _ _ _ _=>trivial
 | @pr_ok s s1 a hi hd _ a4 ih=>
  intro _;obtain ⟨t,h⟩:=ih (by show s.deep+1≤12;omega) (by omega);have a7:s1.deep=s.deep+1:=h.deep;have a8:s.deep+1+Ij 1 t.rank t.need≤12:=h.need;have hw:W (t.opt 1)+pw T (s.at_+1)≤pw T s1.at_:=h.wid;have a0:=CJ T s;have a3:=CJ T s1;have hc:=EZ hi;have ab:=EZ a4;simp only [List.length_cons,List.length_nil] at hc ab;refine ⟨t,h.fit,h.num,h.out,h.plc,?_,?_,?_⟩
  ·show s1.deep - 1=s.deep;omega
  ·have:=WU 6 t.rank t.need;have:=OG 1 t.rank t.need;omega
  ·show _≤pw T (s1.at_+1);rw [H8] at hw ⊢
   split<;>omega
 | pr_end _=>trivial
 | @pr_num s h=>
  intro hd;obtain ⟨e,h0,h1⟩:=XM (FV hT (s:=s) (by omega)) h;have a0:=CJ T s;have ek:Ct {kind:=1,num:=(Aa T s).num}=[nA (Aa T s)]:=by rw [e];rfl
  refine Rt.leaf 1 rfl (by decide) (by decide) rfl (C7 (by show decide (0≤(Aa T s).num)=true;exact decide_eq_true h0) ⟨rfl,rfl,rfl,rfl⟩) (by rw [ek];intro k hk;rw [List.mem_singleton.1 hk];exact h1) hd rfl rfl ?_;rw [ek,CY,Jf,It];show _≤pw T (s.at_+1)
  omega
 | @pr_text s h=>
  intro hd;obtain ⟨e,h0⟩:=XN (FV hT (s:=s) (by omega)) h;have a0:=CJ T s;have ek:Ct {kind:=2,text:=(Aa T s).text}=[nA (Aa T s)]:=by rw [e];rfl
  refine Rt.leaf 2 rfl (by decide) (by decide) rfl (C7 (by show KE (Aa T s).text=true;exact h0) ⟨rfl,rfl,rfl,rfl⟩) (by rw [ek];intro k hk;rw [List.mem_singleton.1 hk,e];show (0:Int)≤9223372036854775807;decide) hd rfl rfl ?_;rw [ek,CY,Jf,It];show _≤pw T (s.at_+1)
  omega
 | @pr_dead s h=>
  intro hd;have e:=XO (FV hT (s:=s) (by omega)) h;have a0:=CJ T s;have ek:Ct {kind:=4}=[nA (Aa T s)]:=by rw [e];rfl
  refine Rt.leaf 4 rfl (by decide) (by decide) rfl rfl (by rw [ek];intro k hk;rw [List.mem_singleton.1 hk,e];show (0:Int)≤9223372036854775807;decide) hd rfl rfl ?_;rw [ek,CY,Jf,It];show _≤pw T (s.at_+1)
  omega
 | @pr_ref s h _=>
  intro hd;obtain ⟨e,h0⟩:=Xb (FV hT (s:=s) (by omega)) h;have a0:=CJ T s;have ek:Ct {kind:=5,ref:=(Aa T s).ref}=[nA (Aa T s)]:=by rw [e];rfl
  refine Rt.leaf 5 rfl (by decide) (by decide) rfl (C7 (by show AP (Aa T s).ref=true;exact h0) ⟨rfl,rfl,rfl,rfl⟩) (by rw [ek];intro k hk;rw [List.mem_singleton.1 hk,e];show (0:Int)≤9223372036854775807;decide) hd rfl rfl ?_;rw [ek,CY,Jf,It];show _≤pw T (s.at_+1)
  omega
 | @pr_range s h hi h' hr=>
  intro hd;obtain ⟨e,h0⟩:=Xb (FV hT (s:=s) (by omega)) h;obtain ⟨e',ac⟩:=Xb (FV hT (s:=Ai (Ai s)) (by omega)) h';have a0:=CJ T s;have a3:pw T (s.at_+1+1)=pw T (s.at_+1)+(BO (Aa T (Ai s))).length:=CJ T (Ai s);have ad:pw T (s.at_+1+1+1)=pw T (s.at_+1+1)+(BO (Aa T (Ai (Ai s)))).length:=CJ T (Ai (Ai s));have hc:=EZ hi;simp only [List.length_cons,List.length_nil] at hc;have ek:Ct {kind:=6,ref:=(Aa T s).ref,to:=(Aa T (Ai (Ai s))).ref}=[nA (Aa T s),sg [58],nA (Aa T (Ai (Ai s)))]:=by rw [e,e'];rfl
  refine Rt.leaf 6 rfl (by decide) (by decide) rfl (C7 (by show (AP (Aa T s).ref&&(AP (Aa T (Ai (Ai s))).ref&&Bq (Aa T s).ref (Aa T (Ai (Ai s))).ref))=true;have h0:AP (Aa T s).ref=true:=h0;have ac:AP (Aa T (Ai (Ai s))).ref=true:=ac;rw [h0,ac,hr];rfl) ⟨rfl,rfl,rfl,rfl⟩) (by
   rw [ek];intro k hk;simp only [List.mem_cons,List.not_mem_nil,or_false] at hk;rcases hk with rfl | rfl | rfl
   ·rw [e];show (0:Int)≤9223372036854775807;decide
   ·decide
   ·rw [e'];show (0:Int)≤9223372036854775807;decide) hd rfl rfl ?_
  rw [ek,CY,CY,CY,Jf,It,It,LF];show _≤pw T (s.at_+1+1+1);simp only [List.length_cons,List.length_nil]
  omega
 | pr_norange _ _ _=>trivial
 | @pr_true s h h1=>
  intro hd;have a0:=CJ T s;have hl:(BO (Aa T s)).length=4:=by simp [BO,h,h1,CK]
  refine Rt.leaf 3 rfl (by decide) (by decide) rfl rfl (by decide) hd rfl rfl ?_;have:W (Ct {kind:=3,num:=1})=4:=rfl;rw [this];show _≤pw T (s.at_+1)
  omega
 | @pr_false s h h1=>
  intro hd;have a0:=CJ T s;have hl:(BO (Aa T s)).length=5:=by simp [BO,h,h1,C4]
  refine Rt.leaf 3 rfl (by decide) (by decide) rfl rfl (by decide) hd rfl rfl ?_;have:W (Ct {kind:=3})=5:=rfl;rw [this];show _≤pw T (s.at_+1)
  omega
 | pr_nocall _ _ _ _=>trivial
 | pr_calldeep _ _ _ _ _=>trivial
 | @pr_call0 s h h1 h2 ae hd a4=>
  intro _;obtain ⟨e,f0,f1⟩:=X7 (FV hT (s:=s) (by omega)) h;have hn:Cu (Aa T s).text=true:=by
   have f0:JN (Aa T s).text=true:=f0;have f1:AZ (Aa T s).text=false:=f1;simp [Cu,f0,f1,h1,h2]
  have a0:=CJ T s;have a3:pw T (s.at_+1+1)=pw T (s.at_+1)+(BO (Aa T (Ai s))).length:=CJ T (Ai s);have ad:pw T (s.at_+1+1+1)=pw T (s.at_+1+1)+(BO (Aa T (Au (Ai (Ai s))))).length:=CJ T (Au (Ai (Ai s)));have hc:=EZ ae;have ab:=EZ a4;have hx:(BO (Aa T s)).length=(Aa T s).text.length:=by simp [BO,h]
  simp only [List.length_cons,List.length_nil] at hc ab;refine ⟨.call (Aa T s).text .nil,⟨hn,trivial⟩,?_,rfl,by simp [Tr.cnt],rfl,?_,?_⟩
  ·intro k hk;simp only [Tr.toks,List.mem_cons,List.not_mem_nil,or_false] at hk;rcases hk with rfl | rfl | rfl
   ·show (0:Int)≤_;decide
   ·decide
   ·decide
  ·show s.deep+1≤12;omega
  ·rw [H8];simp only [Tr.rank,Tr.toks,CY,Jf,LF,List.length_cons,List.length_nil];show (Aa T s).text.length+_+_+_≤pw T (s.at_+1+1+1);simp
   omega
 | @pr_call s r h h1 h2 ae hd a4 _ ih=>
  cases r with
  | err e=>trivial
  | ok s2 b=>
   intro _;obtain ⟨e,f0,f1⟩:=X7 (FV hT (s:=s) (by omega)) h;have hn:Cu (Aa T s).text=true:=by
    have f0:JN (Aa T s).text=true:=f0;have f1:AZ (Aa T s).text=false:=f1;simp [Cu,f0,f1,h1,h2]
   obtain ⟨r1,a1,hh⟩:=ih (by show s.deep+1≤12;omega) s.out .nil hn trivial (λk hk=>by cases hk) (by simp [Tr.flat,Au,Ai]) rfl (by show s.deep+1+0≤12;omega) (by show 1≤s.deep+1;omega);have a0:=CJ T s;have a3:pw T (s.at_+1+1)=pw T (s.at_+1)+(BO (Aa T (Ai s))).length:=CJ T (Ai s);have hc:=EZ ae;have hx:(BO (Aa T s)).length=(Aa T s).text.length:=by simp [BO,h]
   simp only [List.length_cons,List.length_nil] at hc;have a8:s.deep+1+(Tr.snoc r1 a1).need≤12:=hh.need;have hw:W r1.toks+W a1.toks+1+pw T (s.at_+1+1)≤0+pw T s2.at_:=hh.wid;have a7:s2.deep=s.deep+1 - 1:=hh.deep;refine ⟨.call (Aa T s).text (.snoc r1 a1),hh.fit,PW hh.num.1 hh.num.2,hh.out,hh.plc,by omega,?_,?_⟩
   ·show s.deep+((Tr.snoc r1 a1).need+1)≤12;omega
   ·rw [H8];simp only [Tr.rank,Tr.toks,CY,Je,Jf,LF,List.length_cons,List.length_nil];show (Aa T s).text.length+_+_+_≤_;simp
    omega
 | ar_err _ _=>trivial
 | @ar_go x ks s s1 a r _ ah _ ih1 ih2=>
  cases r with
  | err e=>trivial
  | ok s2 b=>
   intro hd o rs hx h1 h2 h3 h4 h5 h6;obtain ⟨t,h⟩:∃t,Rt T 1 s s1 a t:=ih1 hd (by omega);have aj:=OG 1 t.rank t.need;have a8:=h.need;have a7:=h.deep;have a5:s.out.length=o.length+rs.cnt:=by rw [h3,List.length_append,Tr.flat_len]
   obtain ⟨r1,a1,hh⟩:=ih2 (by show s1.deep≤12;omega) o (.snoc rs t) hx ⟨h1,h.fit⟩ (PZ h2 h.num) (by
    show s1.out=_;rw [h.out,h3];simp only [Tr.flat,List.append_assoc,List.length_append,Tr.flat_len]) (by
    rw [h4,h.plc,a5];simp only [Tr.kids]) (by
    show s1.deep+max rs.need t.need≤12;omega) (by show 1≤s1.deep;omega)
   have af:W (t.opt 1)+pw T s.at_≤pw T s1.at_:=h.wid;have ak:W r1.toks+W a1.toks+1+pw T (s1.at_+1)≤W (Tr.snoc rs t).toks+pw T s2.at_:=hh.wid;have a0:=CJ T s1;have hc:=EZ ah;simp only [List.length_cons,List.length_nil] at hc;have an:s2.deep=s1.deep - 1:=hh.deep;have ao:s1.deep+(Tr.snoc r1 a1).need≤12:=hh.need;refine ⟨r1,a1,hh.fit,hh.num,hh.out,hh.plc,by omega,by omega,?_⟩;rw [H8] at af;simp only [Tr.toks,Je,CY,Jf,LF,List.length_cons,List.length_nil] at ak
   omega
 | ar_open _ _ _ _=>trivial
 | @ar_end x ks s s1 a _ ah a4 ih=>
  intro hd o rs hx h1 h2 h3 h4 h5 h6;obtain ⟨t,h⟩:∃t,Rt T 1 s s1 a t:=ih hd (by omega);have aj:=OG 1 t.rank t.need;have a8:=h.need;have a7:=h.deep;have a5:s.out.length=o.length+rs.cnt:=by rw [h3,List.length_append,Tr.flat_len]
  have af:W (t.opt 1)+pw T s.at_≤pw T s1.at_:=h.wid;have a0:=CJ T s1;have hc:=EZ a4;simp only [List.length_cons,List.length_nil] at hc;refine ⟨rs,t,⟨hx,h1,h.fit⟩,⟨h2,h.num⟩,?_,?_,by show s1.deep - 1=s.deep - 1;omega,?_,?_⟩
  ·show s1.out++[_]=_;rw [h.out,h3,h4,h.plc,a5];simp only [Tr.flat,Tr.kids,List.append_assoc,List.length_append,Tr.flat_len]
  ·rw [h.out,h3];simp only [List.length_append,Tr.flat_len,Tr.cnt];omega
  ·show s.deep+max rs.need t.need≤12;omega
  ·show _≤_+pw T (s1.at_+1);rw [H8] at af;omega
theorem TV {s:List UInt8} {T:List An} {l:List Ag} (h:Hj s=some T) (hp:D8 T (.ok l)):∃t:Tr false,t.Fit∧t.Num∧t.flat 0=l∧t.need≤12∧t.text.length≤s.length:=by
 obtain ⟨hC,hw⟩:=PA _ s 0 (Nat.le_refl _) h;obtain ⟨s1,a,a0,_,ho⟩:=hp;obtain ⟨t,ht⟩:=(a0.trees hC) (by simp) (by omega);have h1:=ht.out;have h2:=ht.need;have h3:=ht.wid;have h4:=OG 1 t.rank t.need;have h5:=Xz T s1.at_;rw [H8] at h3;have h6:W T≤s.length:=hw;refine ⟨t,ht.fit,ht.num,by rw [←ho,h1];rfl,by simp only [Nat.zero_add] at h2;omega,?_⟩;show W t.toks≤_;omega
noncomputable def AH (s:List UInt8):Except Int (List Ag):=open Classical in
 if 300<s.length then .error 4 else match Hj s with
 | none=>.error 5
 | some T=>if h:∃o,D8 T o then h.choose else .error 0
theorem Fo {s:List UInt8} {T:List An} {o:Except Int (List Ag)} (h300:s.length≤300) (hl:Hj s=some T) (hp:D8 T o):AH s=o:=by
 unfold AH;rw [if_neg (by omega),hl];have hx:∃o,D8 T o:=⟨o,hp⟩;simp only;rw [dif_pos hx];exact hx.choose_spec.det hp
theorem DU.res {s:List UInt8} {v:Value} {w:World} {lo:Nat} (h:DU s v w lo):Xm w lo v (AH s):=by
 unfold DU at h;by_cases h1:300<s.length
 ·rw [if_pos h1] at h;have:AH s=.error 4:=by unfold AH;rw [if_pos h1]
  rw [this];exact h
 ·rw [if_neg h1] at h
  cases e:Hj s with
  | none=>
   rw [e] at h;have:AH s=.error 5:=by unfold AH;rw [if_neg h1,e]
   rw [this];exact h
  | some T=>
   rw [e] at h;obtain ⟨o,hp,hr⟩:=h;rw [Fo (by omega) e hp];exact hr
theorem NU {s:List UInt8} {l:List Ag} (h:AH s=.ok l):s.length≤300∧∃t:Tr false,t.Fit∧t.Num∧t.flat 0=l∧t.need≤12∧t.text.length≤s.length:=by
 unfold AH at h
 split at h
 ·cases h
 ·rename_i h1
  split at h
  ·cases h
  ·rename_i T e
   split at h
   ·rename_i hx;have:=hx.choose_spec;rw [h] at this;exact ⟨by omega,TV e this⟩
   ·cases h
theorem HA (t:Tr false) (hf:t.Fit) (hn:t.Num):AH t.text=if 300<t.text.length then .error 4 else if t.need≤12 then .ok (t.flat 0) else .error 6:=by
 obtain ⟨T,h1,h2⟩:=t.lex hf hn;by_cases h3:300<t.text.length
 ·rw [if_pos h3];unfold AH;rw [if_pos h3]
 ·rw [if_neg h3];exact Fo (by omega) h1 (t.again hf h2)
def Dm (o:Nat):Tr false→Ag
 | .leaf n=>n
 | .neg a=>{kind:=8,kids:=[((o+a.cnt - 1:Nat):Int)]}
 | .two k a b=>{kind:=k,kids:=[((o+a.cnt - 1:Nat):Int),((o+a.cnt+b.cnt - 1:Nat):Int)]}
 | .call x ks=>{kind:=7,text:=x,kids:=ks.kids o}
def Ps (o:Nat):Tr false→List Ag
 | .leaf _=>[]
 | .neg a=>a.flat o
 | .two _ a b=>a.flat o++b.flat (o+a.cnt)
 | .call _ ks=>ks.flat o
theorem Dq (o:Nat) (t:Tr false):t.flat o=Ps o t++[Dm o t]:=by
 cases t with
 | leaf n=>rfl
 | neg a=>rfl
 | two k a b=>rfl
 | call x ks=>rfl
theorem U8 (o:Nat) (t:Tr false):(Ps o t).length+1=t.cnt:=by
 have:=congrArg List.length (Dq o t)
 simpa [Tr.flat_len] using this.symm
theorem JH {α:Type} {a b:List α} {x y:α} (h:a++[x]=b++[y]):a=b∧x=y:=by
 have:=List.append_inj' h rfl;exact ⟨this.1,by simpa using this.2⟩
theorem Mr:∀(ks:Tr true) (o o':Nat),(ks.kids o).length=(ks.kids o').length
 | .nil,_,_=>rfl
 | .snoc rs a,o,o'=>by simp [Tr.kids,Mr rs o o']
theorem Tr.inj:∀{b:Bool} (t u:Tr b),t.Fit→u.Fit→∀l m:List Ag,l++t.flat l.length=m++u.flat m.length→(b=false∨(t.kids 0).length=(u.kids 0).length)→t=u∧l=m
 | _,.leaf n,u,hf,hu,l,m,h,_=>by
  rw [Dq _ u,←List.append_assoc] at h;obtain ⟨h1,h2⟩:=JH (a:=l) h
  cases u with
  | leaf n'=>exact ⟨by rw [show n=n' from h2],by simpa [Ps] using h1⟩
  | neg a=>have:=hf.2.1;rw [h2] at this;simp [Dm] at this
  | two k a b=>have:=hf.2.1;have:=hu.1;rw [h2] at *;simp [Dm] at *;omega
  | call x ks=>have:=hf.2.1;rw [h2] at this;simp [Dm] at this
 | _,.neg a,u,hf,hu,l,m,h,_=>by
  rw [Dq _ u,Dq _ (.neg a),←List.append_assoc,←List.append_assoc] at h;obtain ⟨h1,h2⟩:=JH h
  cases u with
  | leaf n'=>have:=hu.2.1;rw [←show Dm l.length (.neg a)=n' from h2] at this;simp [Dm] at this
  | neg a'=>
   obtain ⟨e1,e2⟩:=inj a a' hf hu l m h1 (.inl rfl)
   exact ⟨by rw [e1],e2⟩
  | two k a b=>have:=hu.1;have h3:=congrArg Ag.kind h2;simp [Dm] at h3;omega
  | call x ks=>have h3:=congrArg Ag.kind h2;simp [Dm] at h3
 | _,.two k a b,u,hf,hu,l,m,h,_=>by
  rw [Dq _ u,Dq _ (.two k a b),←List.append_assoc,←List.append_assoc] at h;obtain ⟨h1,h2⟩:=JH h;have h3:=congrArg Ag.kind h2;have hk:=hf.1
  cases u with
  | leaf n'=>have:=hu.2.1;simp [Dm] at h3;omega
  | neg a'=>simp [Dm] at h3;omega
  | two k' a' b'=>
   simp only [Ps] at h1;rw [←List.append_assoc,←List.append_assoc] at h1;have e:l.length+a.cnt=(l++a.flat l.length).length:=by simp [Tr.flat_len]
   have e':m.length+a'.cnt=(m++a'.flat m.length).length:=by simp [Tr.flat_len]
   rw [e,e'] at h1;obtain ⟨q1,q2⟩:=inj b b' hf.2.2.2 hu.2.2.2 _ _ h1 (.inl rfl);obtain ⟨q3,q4⟩:=inj a a' hf.2.2.1 hu.2.2.1 l m q2 (.inl rfl);refine ⟨?_,q4⟩
   rw [q1,q3,show k=k' from h3]
  | call x ks=>simp [Dm] at h3;omega
 | _,.call x ks,u,hf,hu,l,m,h,_=>by
  rw [Dq _ u,Dq _ (.call x ks),←List.append_assoc,←List.append_assoc] at h;obtain ⟨h1,h2⟩:=JH h;have h3:=congrArg Ag.kind h2
  cases u with
  | leaf n'=>have:=hu.2.1;simp [Dm] at h3;omega
  | neg a'=>simp [Dm] at h3
  | two k a b=>have:=hu.1;simp [Dm] at h3;omega
  | call x' ks'=>
   have h4:=congrArg (λn=>n.kids.length) h2;simp only [Dm] at h4;obtain ⟨q1,q2⟩:=inj ks ks' hf.2 hu.2 l m h1 (.inr (by rw [Mr ks 0 l.length,Mr ks' 0 m.length];exact h4));have h5:=congrArg Ag.text h2;refine ⟨?_,q2⟩
   rw [q1,show x=x' from h5]
 | _,.nil,u,_,_,l,m,h,hk=>by
  rcases u.snoc_form with rfl | ⟨rs,a,rfl⟩
  ·exact ⟨rfl,by simpa [Tr.flat] using h⟩
  ·simp [Tr.kids] at hk
 | _,.snoc rs a,u,hf,hu,l,m,h,hk=>by
  rcases u.snoc_form with rfl | ⟨rs',a',rfl⟩
  ·simp [Tr.kids] at hk
  ·simp only [Tr.flat] at h;rw [←List.append_assoc,←List.append_assoc] at h;have e:l.length+rs.cnt=(l++rs.flat l.length).length:=by simp [Tr.flat_len]
   have e':m.length+rs'.cnt=(m++rs'.flat m.length).length:=by simp [Tr.flat_len]
   rw [e,e'] at h;obtain ⟨q1,q2⟩:=inj a a' hf.2 hu.2 _ _ h (.inl rfl);obtain ⟨q3,q4⟩:=inj rs rs' hf.1 hu.1 l m q2 (.inr (by simpa [Tr.kids] using hk));exact ⟨by rw [q1,q3],q4⟩
theorem Tr.goes:∀{b:Bool} (t:Tr b),t.Fit→∀(o:Nat) (st:List Int),Bn o st (t.flat o)=some (st++(if b then t.kids o else [((o+t.cnt - 1:Nat):Int)]))
 | _,.leaf n,hf,o,st=>by
  have hc:EQ n=n.kids.length:=by
   have h1:=hf.1;have h2:=hf.2.1;have a0:B7 n.kind=0:=by
    unfold B7;rw [if_neg (by omega),if_neg (by omega),if_neg (by omega),if_neg (by omega)]
   rw [hf.2.2.1,EQ,a0];rfl
  have:=HN (l:=[]) (i:=o) (st:=st) (st':=st) (ks:=[]) (by simp [Bn]) hf.2.2.1 hc hf.2.2.2
  simpa [Tr.cnt,Tr.flat] using this
 | _,.neg a,hf,o,st=>by
  have h:=goes a hf o st;have:=HN (ks:=[((o+a.cnt - 1:Nat):Int)]) (n:={kind:=8,kids:=[((o+a.cnt - 1:Nat):Int)]}) h rfl rfl rfl;rw [Tr.flat_len] at this
  simpa [Tr.cnt,Tr.flat] using this
 | _,.two k a b,hf,o,st=>by
  have h1:=goes a hf.2.2.1 o st;have h2:=goes b hf.2.2.2 (o+a.cnt) (st++[((o+a.cnt - 1:Nat):Int)]);have hn:=Nk hf.1 hf.2.1 ((o+a.cnt - 1:Nat):Int) ((o+a.cnt+b.cnt - 1:Nat):Int);have h3:Bn o st (a.flat o++b.flat (o+a.cnt))=some (st++[((o+a.cnt - 1:Nat):Int),((o+a.cnt+b.cnt - 1:Nat):Int)]):=by
   rw [DD,h1];simp only [Bool.false_eq_true,if_false,Option.bind_some,Tr.flat_len];simp only [Bool.false_eq_true,if_false] at h2;rw [h2];simp
  have:=HN (n:={kind:=k,kids:=[((o+a.cnt - 1:Nat):Int),((o+a.cnt+b.cnt - 1:Nat):Int)]}) h3 rfl hn.1 hn.2;simp only [List.length_append,Tr.flat_len] at this;simp only [Tr.flat,this,Tr.cnt]
  simp
 | _,.call x ks,hf,o,st=>by
  have h:=goes ks hf.2 o st;simp only [if_true] at h;have hn:=HU hf.1 (ks.kids o);have:=HN (n:={kind:=7,text:=x,kids:=ks.kids o}) h rfl hn.1 hn.2;rw [Tr.flat_len] at this
  simpa [Tr.cnt,Tr.flat] using this
 | _,.nil,_,o,st=>by simp [Bn,Tr.flat,Tr.kids]
 | _,.snoc rs a,hf,o,st=>by
  have h1:=goes rs hf.1 o st;have h2:=goes a hf.2 (o+rs.cnt) (st++rs.kids o);simp only [if_true] at h1;simp only [Bool.false_eq_true,if_false] at h2;simp only [Tr.flat,Tr.kids,DD,h1,Option.bind_some,Tr.flat_len,h2,if_true];simp
theorem Tr.tree (t:Tr false) (hf:t.Fit):BL (t.flat 0)=true:=by
 have:=t.goes hf 0 [];simp only [List.nil_append,Bool.false_eq_true,if_false] at this;rw [BL,this];rfl
noncomputable def BF (l:List Ag):List UInt8:=open Classical in if h:∃t:Tr false,t.Fit∧t.flat 0=l then h.choose.text else []
theorem Gz {t:Tr false} (hf:t.Fit):BF (t.flat 0)=t.text:=by
 unfold BF;have hx:∃u:Tr false,u.Fit∧u.flat 0=t.flat 0:=⟨t,hf,rfl⟩;rw [dif_pos hx];obtain ⟨h1,h2⟩:=hx.choose_spec;rw [(Tr.inj _ t h1 hf [] [] (by simpa using h2) (.inl rfl)).1]
theorem Ko {l:List Ag} (h:BL l=false):BF l=[]:=by
 unfold BF;rw [dif_neg];rintro ⟨t,hf,rfl⟩;rw [t.tree hf] at h;cases h
theorem HB {s:List UInt8} {l:List Ag} (h:AH s=.ok l):AH (BF l)=.ok l∧(BF l).length≤s.length∧BL l=true∧∃t:Tr false,t.Fit∧t.Num∧t.flat 0=l∧BF l=t.text:=by
 obtain ⟨h3,t,hf,hn,rfl,hd,hl⟩:=NU h;rw [Gz hf,HA t hf hn,if_neg (by omega),if_pos hd];exact ⟨rfl,hl,t.tree hf,t,hf,hn,rfl,rfl⟩
theorem Kp (s:List UInt8):(DC s).length≤2*s.length+2:=by
 have:∀s:List UInt8,(s.flatMap (λc=>if c=(34:UInt8) then [34,34] else [c])).length≤2*s.length:=by
  intro s
  induction s with
  | nil=>simp
  | cons c s ih=>
   simp only [List.flatMap_cons,List.length_append,List.length_cons];by_cases h:c=34
   ·rw [if_pos h];simp only [List.length_cons,List.length_nil];omega
   ·rw [if_neg h];simp only [List.length_cons,List.length_nil];omega
 have:=this s;simp only [DC,List.length_cons,List.length_append,List.length_nil];omega
theorem Kw {r:Co} (h:AP r=true):(B9 r).length≤r.sheet.length+10:=by
 obtain ⟨_,_,_,r0,r1⟩:=Ds h;have h1:=(FO (z:=r.row+1) (by omega) (by omega)).2.2.1;have h2:=Hu r.col;have h3:=Fa r.ac;have h4:=Fa r.ar;unfold B9
 split<;>simp only [List.length_append,List.length_cons,List.length_nil]<;>omega
theorem K0.get {w:World} {lo:Nat} {sv:Value} {l:List Ag} (h:K0 w lo sv l) (hn:0<l.length) :
  ∃(g cap:Nat) (nvs:List NV) (sp:List Value),sv=.slice (some ⟨g,0,none⟩) l.length cap∧Blk w g (nvs.flatMap Br++sp) 139∧nvs.map NV.node=l∧∀x∈nvs,Be w x.kv x.node.kids:=by
 obtain ⟨nvs,ho,hm,hk⟩:=h;have hl:nvs.length=l.length:=by rw [←hm];simp
 obtain ⟨g,cap,sp,rfl,hB,_⟩:=ho.get (by omega);exact ⟨g,cap,nvs,sp,by rw [hl],hB,hm,hk⟩
theorem T5 {nvs:List NV} {l:List Ag} (hm:nvs.map NV.node=l) {i:Nat} {nd:Ag} (h:l[i]?=some nd):∃kv,nvs[i]?=some ⟨nd,kv⟩:=by
 rw [←hm,List.getElem?_map] at h
 cases e:nvs[i]? with
 | none=>rw [e] at h;cases h
 | some x=>
  rw [e] at h;simp only [Option.map_some,Option.some.injEq] at h;exact ⟨x.kv,by rw [←h]⟩
theorem OV {i:Nat} {st st':List Int} {n:Ag} (h:CV i st n=some st'):n.kids.length≤st.length∧st'.length≤st.length+1:=by
 unfold CV at h
 split at h
 ·rename_i hc;simp only [Option.some.injEq] at h;subst h;exact ⟨hc.2.1,by simp⟩
 ·cases h
theorem KM:∀(l:List Ag) (i:Nat) (st st':List Int),Bn i st l=some st'→∀n∈l,n.kids.length≤st.length+l.length
 | [],_,_,_,_,_,hn=>absurd hn (by simp)
 | m::t,i,st,st',h,n,hn=>by
  rw [Bn] at h
  cases e:CV i st m with
  | none=>rw [e] at h;cases h
  | some s1=>
   rw [e] at h;obtain ⟨h1,h2⟩:=OV e;rcases List.mem_cons.1 hn with rfl | hn
   ·simp;omega
   ·have:=KM t (i+1) s1 st' h n hn;simp;omega
theorem IY {l:List Ag} (h:BL l=true):∀n∈l,n.kids.length≤l.length:=by
 unfold BL at h
 split at h
 ·rename_i st e;intro n hn;have:=KM l 0 [] st e n hn
  simpa using this
 ·cases h
theorem K0.row {w:World} {lo:Nat} {sv:Value} {l:List Ag} (h:K0 w lo sv l) (hl:l.length≤100000) (hk:∀n∈l,n.kids.length≤100000):BM w sv l:=by
 refine ⟨hl,?_⟩;by_cases h0:l.length=0
 ·have a1:l=[]:=List.eq_nil_of_length_eq_zero h0;subst a1;obtain ⟨nvs,ho,hm,_⟩:=h;have a2:nvs=[]:=by simpa using hm
  subst a2;obtain ⟨_,⟨e,_⟩ | ⟨g,cap,sp,e,hB,_⟩⟩:=ho
  ·exact .inl ⟨e,rfl⟩
  ·exact .inr ⟨_,cap,e,λi nd hi=>by simp at hi⟩
 ·obtain ⟨g,cap,nvs,sp,rfl,hB,hm,a0⟩:=h.get (by omega);refine .inr ⟨_,cap,rfl,λi nd hi=>?_⟩;obtain ⟨kv,hg⟩:=T5 hm hi;refine ⟨kv,⟨by have:=hk nd (List.mem_of_getElem? hi);omega,?_⟩,λj u hu=>?_⟩
  ·rcases a0 _ (List.mem_of_getElem? hg) with ⟨e1,e2⟩ | ⟨b',cap',sp',e1,a3⟩
   ·exact .inl ⟨e1,e2⟩
   ·refine .inr ⟨_,cap',e1,λj z hz=>a3.getElem _ _ ?_⟩;rw [List.getElem?_append_left (by
     rw [A7];rcases Nat.lt_or_ge j nd.kids.length with h | h
     ·exact h
     ·rw [List.getElem?_eq_none h] at hz;cases hz)]
    exact GG hz
  ·have hj:j<14:=by
    rcases Nat.lt_or_ge j 14 with h | h
    ·exact h
    ·rw [List.getElem?_eq_none (by rw [Vh];exact h)] at hu;cases hu
   rw [Addr.add_add];refine hB.getElem _ _ ?_;rw [Gm Vh nvs sp i _ j hg hj];exact hu
theorem PE.errs {T:List An} {m:DE} {s:Bv} {r:Ho} (h:PE T m s r):∀e,r=.err e→e=5∨e=6:=by
 induction h with
 | lev_err _ ih=>intro e he;cases he;exact ih _ rfl
 | lev_ok _ _ _ ih=>exact ih
 | loop_end _=>intro e he;cases he
 | loop_err _ _ ih=>intro e he;cases he;exact ih _ rfl
 | loop_go _ _ _ _ ih=>exact ih
 | un_prim _ _ ih=>exact ih
 | un_deep _ _=>intro e he;cases he;exact .inr rfl
 | un_err _ _ _ ih=>intro e he;cases he;exact ih _ rfl
 | un_ok _ _ _ _=>intro e he;cases he
 | pr_sign _ _=>intro e he;cases he;exact .inl rfl
 | pr_deep _ _=>intro e he;cases he;exact .inr rfl
 | pr_err _ _ _ ih=>intro e he;cases he;exact ih _ rfl
 | pr_open _ _ _ _ _=>intro e he;cases he;exact .inl rfl
 | pr_ok _ _ _ _ _=>intro e he;cases he
 | pr_end _=>intro e he;cases he;exact .inl rfl
 | pr_num _=>intro e he;cases he
 | pr_text _=>intro e he;cases he
 | pr_dead _=>intro e he;cases he
 | pr_ref _ _=>intro e he;cases he
 | pr_range _ _ _ _=>intro e he;cases he
 | pr_norange _ _ _=>intro e he;cases he;exact .inl rfl
 | pr_true _ _=>intro e he;cases he
 | pr_false _ _=>intro e he;cases he
 | pr_nocall _ _ _ _=>intro e he;cases he;exact .inl rfl
 | pr_calldeep _ _ _ _ _=>intro e he;cases he;exact .inr rfl
 | pr_call0 _ _ _ _ _ _=>intro e he;cases he
 | pr_call _ _ _ _ _ _ _ ih=>exact ih
 | ar_err _ ih=>intro e he;cases he;exact ih _ rfl
 | ar_go _ _ _ _ ih=>exact ih
 | ar_open _ _ _ _=>intro e he;cases he;exact .inl rfl
 | ar_end _ _ _ _=>intro e he;cases he
theorem Tr.cnt_le:∀{b:Bool} (t:Tr b),t.Fit→t.Num→t.cnt≤W t.toks
 | _,.leaf n,hf,hn=>by
  obtain ⟨u,m,e,hk,_⟩:=Gr hf.1 hf.2.1;have hc:=(Ky ((Tr.leaf n).can hf hn u (by show u∈Ct n;rw [e];simp))).1;show 1≤W (Ct n);rw [e,CY];have:=List.length_pos_iff.2 hc
  omega
 | _,.neg a,hf,hn=>by
  have ha:=cnt_le a hf (λu hu=>hn u (by simp only [Tr.toks];exact List.mem_cons_of_mem _ (BG hu)));simp only [Tr.cnt,Tr.toks,CY,Ux,LF,List.length_cons,List.length_nil]
  omega
 | _,.two o a b,hf,hn=>by
  have ha:=cnt_le a hf.2.2.1 (λu hu=>hn u (by simp only [Tr.toks];exact List.mem_append_left _ (BG hu)));have hb:=cnt_le b hf.2.2.2 (λu hu=>hn u (by simp only [Tr.toks];exact List.mem_append_right _ (List.mem_cons_of_mem _ (BG hu))));have hs:=List.length_pos_iff.2 (JF _ (Ir hf.1 hf.2.1)).1;simp only [Tr.cnt,Tr.toks,Je,CY,Ux,LF]
  omega
 | _,.call x .nil,hf,hn=>by
  simp only [Tr.cnt,Tr.toks,CY,LF,List.length_cons,List.length_nil]
  omega
 | _,.call x (.snoc rs a),hf,hn=>by
  have hr:=cnt_le rs hf.2.1 (λu hu=>hn u (by simp only [Tr.toks];simp [hu]));have ha:=cnt_le a hf.2.2 (λu hu=>hn u (by simp only [Tr.toks];simp [hu]));simp only [Tr.cnt,Tr.toks,CY,Je,LF,List.length_cons,List.length_nil]
  omega
 | _,.nil,_,_=>Nat.zero_le _
 | _,.snoc rs a,hf,hn=>by
  have hr:=cnt_le rs hf.1 (λu hu=>hn u (by simp only [Tr.toks];simp [hu]));have ha:=cnt_le a hf.2 (λu hu=>hn u (by simp only [Tr.toks];simp [hu]));simp only [Tr.cnt,Tr.toks,Je];omega
def W3 (s:List UInt8) (l:List Ag) (e:Int):Prop:=AH s=.ok l∧e=0∨AH s=.error e∧l=[]∧(e=4∨e=5∨e=6)
theorem OI {s:List UInt8} {l:List Ag} (h:AH s=.ok l):D5 l:=by
 unfold AH at h
 split at h
 ·cases h
 ·rename_i h1
  split at h
  ·cases h
  ·rename_i T e
   split at h
   ·rename_i hx;have hp:=hx.choose_spec;rw [h] at hp;exact (D8.tree (VY (by omega) e) hp).2
   ·cases h
theorem DL {s:List UInt8} {l:List Ag} (h:AH s=.ok l):s.length≤300∧BL l=true∧D5 l∧l.length≤300∧∀n∈l,n.kids.length≤300:=by
 obtain ⟨h3,t,hf,hn,rfl,hd,hl⟩:=NU h;have ht:=t.tree hf;have hc:=t.cnt_le hf hn;have a0:(t.flat 0).length≤300:=by
  rw [Tr.flat_len];have:W t.toks=t.text.length:=rfl;omega
 exact ⟨h3,ht,OI h,a0,λn hm=>Nat.le_trans (IY ht n hm) a0⟩
theorem W3.facts {s:List UInt8} {l:List Ag} {e:Int} (h:W3 s l e):D5 l∧l.length≤300∧(∀n∈l,n.kids.length≤300)∧BL l=decide (e=0)∧0≤e∧e≤6:=by
 rcases h with ⟨h,rfl⟩ | ⟨h,rfl,he⟩
 ·obtain ⟨_,h1,h2,h3,h4⟩:=DL h;exact ⟨h2,h3,h4,by rw [h1];rfl,by omega,by omega⟩
 ·refine ⟨λn hn=>(List.not_mem_nil hn).elim,by simp,λn hn=>(List.not_mem_nil hn).elim,?_,by omega,by omega⟩;have:BL []=false:=rfl;rw [this];simp;omega
theorem IJ (w:World):BM w (.slice none 0 0) []:=⟨by simp,.inl ⟨rfl,rfl⟩⟩
theorem DU.both {s:List UInt8} {v:Value} {w:World} {lo:Nat} (h:DU s v w lo):∃l e sv,v=.tuple #[sv,.int .i64 e]∧BM w sv l∧W3 s l e:=by
 have hr:=h.res
 cases hp:AH s with
 | ok l=>
  rw [hp] at hr;obtain ⟨sv,rfl,hn⟩:=hr;obtain ⟨_,h1,h2,h3,h4⟩:=DL hp
  exact ⟨l,0,sv,rfl,hn.row (by omega) (λn hm=>by have:=h4 n hm;omega),.inl ⟨hp,rfl⟩⟩
 | error e=>
  rw [hp] at hr;refine ⟨[],e,_,hr,IJ w,.inr ⟨hp,rfl,?_⟩⟩;unfold DU at h;by_cases h1:300<s.length
  ·have:AH s=.error 4:=by unfold AH;rw [if_pos h1]
   rw [this] at hp;simp only [Except.error.injEq] at hp;omega
  ·rw [if_neg h1] at h
   cases hl:Hj s with
   | none=>
    have:AH s=.error 5:=by unfold AH;rw [if_neg h1,hl]
    rw [this] at hp;simp only [Except.error.injEq] at hp
    omega
   | some T=>
    rw [hl] at h;obtain ⟨o,a0,_⟩:=h;have:=Fo (by omega) hl a0;rw [hp] at this;subst this;rcases a0 with h | ⟨h,_⟩
    ·have:=h.errs _ rfl;omega
    ·omega
def DT (l:List Ag) (o:Nat) {b:Bool} (t:Tr b):Prop:=∃suf,l.drop o=t.flat o++suf
theorem JZ {l:List Ag} {o n:Nat} {x y:List Ag} (h:l.drop o=x++y) (hn:x.length=n):l.drop (o+n)=y:=by
 rw [←List.drop_drop,h,←hn,List.drop_left]
theorem DT.node {l:List Ag} {o:Nat} {t:Tr false} (h:DT l o t):l[o+t.cnt - 1]?=some (Dm o t):=by
 obtain ⟨suf,h⟩:=h;rw [Dq,List.append_assoc] at h;have hb:=U8 o t;have e:=JZ h rfl;have e2:o+t.cnt - 1=o+(Ps o t).length:=by omega
 have:=congrArg List.head? e;rw [e2,←List.head?_drop,this];rfl
theorem DT.neg {l:List Ag} {o:Nat} {a:Tr false} (h:DT l o (.neg a)):DT l o a:=by
 obtain ⟨suf,h⟩:=h;simp only [Tr.flat,List.append_assoc] at h;exact ⟨_,h⟩
theorem DT.two {l:List Ag} {o:Nat} {k:Int} {a b:Tr false} (h:DT l o (.two k a b)):DT l o a∧DT l (o+a.cnt) b:=by
 obtain ⟨suf,h⟩:=h;simp only [Tr.flat,List.append_assoc] at h;exact ⟨⟨_,h⟩,_,JZ h (a.flat_len o)⟩
theorem DT.call {l:List Ag} {o:Nat} {x:List UInt8} {ks:Tr true} (h:DT l o (.call x ks)):DT l o ks:=by
 obtain ⟨suf,h⟩:=h;simp only [Tr.flat,List.append_assoc] at h;exact ⟨_,h⟩
theorem DT.snoc {l:List Ag} {o:Nat} {ks:Tr true} {a:Tr false} (h:DT l o (.snoc ks a)):DT l o ks∧DT l (o+ks.cnt) a:=by
 obtain ⟨suf,h⟩:=h;simp only [Tr.flat,List.append_assoc] at h;exact ⟨⟨_,h⟩,_,JZ h (ks.flat_len o)⟩
theorem DT.whole (t:Tr false):DT (t.flat 0) 0 t:=⟨[],by simp⟩
def Tr.row (o:Nat):{b:Bool}→Tr b→List (Nat×Tr false)
 | _,.snoc ks a=>ks.row o++[(o+ks.cnt,a)]
 | _,_=>[]
theorem MW (o:Nat):∀(ks:Tr true),ks.kids o=(ks.row o).map (λx=>((x.1+x.2.cnt - 1:Nat):Int))
 | .nil=>rfl
 | .snoc rs a=>by simp [Tr.kids,Tr.row,MW o rs]
theorem Tr.cnt_pos (t:Tr false):0<t.cnt:=by cases t<;>simp [Tr.cnt]
theorem Oj (rs:Tr true) (a:Tr false):(Tr.snoc rs a).text=rs.text++(a.text++[44]):=by
 simp only [Tr.text,Tr.toks,List.flatMap_append,List.flatMap_cons,List.flatMap_nil,De,List.append_nil]
theorem On (x:List UInt8):BO ⟨3,x,0,A3,0⟩=x:=rfl
theorem N7 (x:List UInt8) (rs:Tr true) (a:Tr false):(Tr.call x (.snoc rs a)).text=x++([40]++(rs.text++(a.text++[41]))):=by
 simp only [Tr.text,Tr.toks,List.flatMap_append,List.flatMap_cons,List.flatMap_nil,De,On,List.append_nil]
theorem OR {l:List Ag} {o:Nat}:∀(ks:Tr true),ks.Fit→ks.Num→DT l o ks→∀x∈ks.row o,DT l x.1 x.2∧x.2.Fit∧x.2.Num∧x.2.cnt≤ks.cnt∧x.2.text.length≤ks.text.length
 | .nil,_,_,_,x,hx=>by cases hx
 | .snoc rs a,hf,hn,h,x,hx=>by
  have hnr:rs.Num:=λu hu=>hn u (by simp only [Tr.toks];simp [hu]);have hna:a.Num:=λu hu=>hn u (by simp only [Tr.toks];simp [hu]);have htx:(Tr.snoc rs a).text.length=rs.text.length+a.text.length+1:=by rw [Oj];simp only [List.length_append,List.length_cons,List.length_nil];omega
  simp only [Tr.row,List.mem_append,List.mem_singleton] at hx;rcases hx with hx | rfl
  ·obtain ⟨h1,h2,h3,h4,h5⟩:=OR rs hf.1 hnr h.snoc.1 x hx;exact ⟨h1,h2,h3,by simp only [Tr.cnt];omega,by omega⟩
  ·exact ⟨h.snoc.2,hf.2,hna,by simp [Tr.cnt],by simp only;omega⟩
def Hr (b:Bool) (s:List UInt8):List UInt8:=if b then [40]++s++[41] else s
theorem Pt (b:Bool) (l:List An):(brk b l).flatMap BO=Hr b (l.flatMap BO):=by
 unfold brk Hr
 split<;>simp [De]
theorem M7 (a:Tr false):(Tr.neg a).text=[45]++Hr (decide (a.rank<5)) a.text:=by
 simp [Tr.text,Tr.toks,De,Pt]
theorem Nl (k:Int) (a b:Tr false):(Tr.two k a b).text=Hr (decide (a.rank<BK k)) a.text++EW k++Hr (decide (b.rank<BK k+1)) b.text:=by
 simp [Tr.text,Tr.toks,De,Pt]
def R9 (r:List (Nat×Tr false)):List UInt8:=r.flatMap (λx=>x.2.text++[44])
theorem Q6 (o:Nat):∀(ks:Tr true),ks.text=R9 (ks.row o)
 | .nil=>rfl
 | .snoc rs a=>by
  have ih:=Q6 o rs;simp only [Tr.text] at ih;simp [Tr.text,Tr.toks,Tr.row,R9,ih,De]
def G1 (r:List (Nat×Tr false)):Nat→List UInt8
 | 0=>[]
 | i+1=>R9 (r.take i)++(match r[i]? with
  | some x=>x.2.text
  | none=>[])
theorem TY {r:List (Nat×Tr false)} {i:Nat} {x:Nat×Tr false} (h:r[i]?=some x):R9 (r.take (i+1))=R9 (r.take i)++x.2.text++[44]:=by
 rw [List.take_add_one,h];simp [R9]
theorem Kr {r:List (Nat×Tr false)} {i:Nat} {x:Nat×Tr false} (h:r[i]?=some x):G1 r (i+1)=G1 r i++(if 0<i then [44] else [])++x.2.text:=by
 cases i with
 | zero=>simp [G1,h,R9]
 | succ j=>
  have hj:j<r.length:=by
   rcases Nat.lt_or_ge j r.length with h' | h'
   ·exact h'
   ·rw [List.getElem?_eq_none (by omega)] at h;cases h
  have hy:r[j]?=some r[j]:=List.getElem?_eq_getElem hj;simp only [G1,h,hy,TY hy];simp
theorem JV (x:List UInt8) (o:Nat) (ks:Tr true):(Tr.call x ks).text=x++[40]++G1 (ks.row o) (ks.row o).length++[41]:=by
 rcases ks.snoc_form with rfl | ⟨rs,a,rfl⟩
 ·simp [Tr.text,Tr.toks,De,On,Tr.row,G1]
 ·have hr:=Q6 o rs;have hl:(rs.row o++[(o+rs.cnt,a)]).length=(rs.row o).length+1:=by simp
  simp only [Tr.row,hl,G1];rw [N7,hr];simp
theorem Ke {n:Ag} (hp:Ar n=true) (h0:1≤n.kind) (h1:n.kind≤6):(Tr.leaf n).text=if n.kind=1 then Lib.itoa n.num else if n.kind=2 then DC n.text else if n.kind=3 then (if n.num=1 then CK else C4) else if n.kind=4 then DG else if n.kind=5 then Cd n.ref else Cd n.ref++[58]++Cd n.to:=by
 have ho:=DN hp;have:n.kind=1∨n.kind=2∨n.kind=3∨n.kind=4∨n.kind=5∨n.kind=6:=by omega
 rcases this with h | h | h | h | h | h<;>simp only [Fb,h,if_true,if_false,Int.reduceEq,Bool.and_eq_true,decide_eq_true_eq] at ho<;>simp [Tr.text,Tr.toks,Ct,h,BO,sg]
 ·rw [Cd,if_pos ho]
 ·rw [Cd,Cd,if_pos ho.1,if_pos ho.2.1]
theorem Im (o:Nat) (t:Tr false) (hf:t.Fit):BK (Dm o t).kind=t.rank:=by
 cases t with
 | leaf n=>
  have h0:=hf.1;have h1:=hf.2.1;show BK n.kind=6;unfold BK
  rw [if_neg (by omega),if_neg (by omega),if_neg (by omega),if_neg (by omega),if_neg (by omega)]
 | neg a=>rfl
 | two k a b=>rfl
 | call x ks=>rfl
theorem Ji (b:Bool) (s:List UInt8):s.length≤(Hr b s).length∧(Hr b s).length≤s.length+2:=by
 unfold Hr
 split
 ·simp only [List.length_append,List.length_cons,List.length_nil];omega
 ·omega
theorem G2 {r:List (Nat×Tr false)} (i:Nat):∀k,i+k≤r.length→(G1 r i).length≤(G1 r (i+k)).length
 | 0,_=>Nat.le_refl _
 | k+1,h=>by
  have ih:=G2 (r:=r) i k (by omega);have hlt:i+k<r.length:=by omega
  have hx:r[i+k]?=some r[i+k]:=List.getElem?_eq_getElem hlt;have e:=congrArg List.length (Kr hx);simp only [List.length_append] at e;rw [←Nat.add_assoc,e];omega
theorem Pv {x:List UInt8} {ks:Tr true} (h:(Tr.call x ks).Num):ks.Num:=by
 rcases ks.snoc_form with rfl | ⟨rs,a,rfl⟩
 ·intro u hu;cases hu
 ·intro u hu;simp only [Tr.toks,List.mem_append,List.mem_cons,List.not_mem_nil,or_false] at hu;rcases hu with hu | hu | rfl
  ·exact h u (by simp only [Tr.toks];simp [hu])
  ·exact h u (by simp only [Tr.toks];simp [hu])
  ·simp [sg]
theorem Tr.num_of:∀{b:Bool} (t:Tr b) (o:Nat),t.Fit→(∀n∈t.flat o,n.num≤9223372036854775807)→t.Num
 | _,.leaf n,o,hf,hs=>by
  have hx:=hs n (by simp [Tr.flat]);intro u hu;have h0:=hf.1;have h1:=hf.2.1;have:n.kind=1∨n.kind=2∨n.kind=3∨n.kind=4∨n.kind=5∨n.kind=6:=by omega
  rcases this with h | h | h | h | h | h<;>simp only [Tr.toks,Ct,h,if_true,if_false,Int.reduceEq,List.mem_cons,List.not_mem_nil,or_false] at hu
  ·subst hu;exact hx
  ·subst hu;simp
  ·subst hu;simp
  ·subst hu;simp
  ·subst hu;simp
  ·rcases hu with rfl | rfl | rfl<;>simp [sg]
 | _,.neg a,o,hf,hs=>by
  have ha:=num_of a o hf (λn hm=>hs n (by simp only [Tr.flat];simp [hm]));intro u hu;simp only [Tr.toks,List.mem_cons] at hu;rcases hu with rfl | hu
  ·simp [sg]
  ·rcases EY hu with hu | rfl | rfl
   ·exact ha u hu
   ·simp [sg]
   ·simp [sg]
 | _,.two k a b,o,hf,hs=>by
  have ha:=num_of a o hf.2.2.1 (λn hm=>hs n (by simp only [Tr.flat];simp [hm]));have hb:=num_of b (o+a.cnt) hf.2.2.2 (λn hm=>hs n (by simp only [Tr.flat];simp [hm]));intro u hu;simp only [Tr.toks,List.mem_append,List.mem_cons] at hu;rcases hu with hu | rfl | hu
  ·rcases EY hu with hu | rfl | rfl
   ·exact ha u hu
   ·simp [sg]
   ·simp [sg]
  ·simp [sg]
  ·rcases EY hu with hu | rfl | rfl
   ·exact hb u hu
   ·simp [sg]
   ·simp [sg]
 | _,.call x .nil,o,hf,hs=>by
  intro u hu;simp only [Tr.toks,List.mem_cons,List.not_mem_nil,or_false] at hu
  rcases hu with rfl | rfl | rfl<;>simp [sg]
 | _,.call x (.snoc rs a),o,hf,hs=>by
  have hr:=num_of rs o hf.2.1 (λn hm=>hs n (by simp only [Tr.flat];simp [hm]));have ha:=num_of a (o+rs.cnt) hf.2.2 (λn hm=>hs n (by simp only [Tr.flat];simp [hm]));intro u hu;simp only [Tr.toks,List.mem_cons,List.mem_append,List.not_mem_nil,or_false] at hu;rcases hu with rfl | rfl | hu | hu | rfl
  ·simp
  ·simp [sg]
  ·exact hr u hu
  ·exact ha u hu
  ·simp [sg]
 | _,.nil,o,_,_=>λu hu=>by cases hu
 | _,.snoc rs a,o,hf,hs=>by
  have hr:=num_of rs o hf.1 (λn hm=>hs n (by simp only [Tr.flat];simp [hm]));have ha:=num_of a (o+rs.cnt) hf.2 (λn hm=>hs n (by simp only [Tr.flat];simp [hm]));intro u hu;simp only [Tr.toks,List.mem_append,List.mem_cons,List.not_mem_nil,or_false] at hu;rcases hu with hu | hu | rfl
  ·exact hr u hu
  ·exact ha u hu
  ·simp [sg]
theorem Tr.len_le:∀{b:Bool} (t:Tr b) (o:Nat),t.Fit→t.Num→(∀n∈t.flat o,n.text.length≤1000)→t.text.length+cond b 0 1≤4000*t.cnt
 | _,.leaf n,o,hf,hn,hs=>by
  have hx:=hs n (by simp [Tr.flat]);have hc:=(Tr.leaf n).can hf hn;obtain ⟨h0,h1,hk,hp⟩:=hf;have ho:=DN hp;have hq:=Kp n.text;rw [Ke hp h0 h1];have htb:∀r:Co,AP r=true→(Cd r).length≤30:=λr hm=>by
   have h2:=Kw hm;have h3:=(Ds hm).1;rw [Cd,if_pos hm];rcases h3 with h3 | h3
   ·rw [h3] at h2;simp at h2;omega
   ·have:=(II h3).2.1;omega
  show _+1≤_;simp only [Tr.cnt];have:n.kind=1∨n.kind=2∨n.kind=3∨n.kind=4∨n.kind=5∨n.kind=6:=by omega
  rcases this with h | h | h | h | h | h<;>simp only [Fb,h,if_true,if_false,Int.reduceEq,Bool.and_eq_true,decide_eq_true_eq] at ho ⊢
  ·have:=Lib.itoa_length_le n.num (by omega) (hn ⟨1,[],n.num,A3,0⟩ (by simp [Tr.toks,Ct,h]));omega
  ·omega
  ·split<;>simp [CK,C4]
  ·simp [DG]
  ·have:=htb _ ho;omega
  ·have:=htb _ ho.1;have:=htb _ ho.2.1
   simp only [List.length_append,List.length_cons,List.length_nil];omega
 | _,.neg a,o,hf,hn,hs=>by
  have ha:a.text.length+1≤_:=len_le a o hf (λu hu=>hn u (by simp only [Tr.toks];exact List.mem_cons_of_mem _ (BG hu))) (λn hm=>hs n (by simp only [Tr.flat];simp [hm]));show _+1≤_;rw [M7];simp only [Tr.cnt,Hr]
  split<;>simp only [List.length_append,List.length_cons,List.length_nil]<;>omega
 | _,.two k a b,o,hf,hn,hs=>by
  have ha:a.text.length+1≤_:=len_le a o hf.2.2.1 (λu hu=>hn u (by simp only [Tr.toks];exact List.mem_append_left _ (BG hu))) (λn hm=>hs n (by simp only [Tr.flat];simp [hm]));have hb:b.text.length+1≤_:=len_le b (o+a.cnt) hf.2.2.2 (λu hu=>hn u (by simp only [Tr.toks];exact List.mem_append_right _ (List.mem_cons_of_mem _ (BG hu)))) (λn hm=>hs n (by simp only [Tr.flat];simp [hm]));have a0:∀s∈Bf,s.length≤2:=by decide
  have h2:=a0 _ (Ir hf.1 hf.2.1);show _+1≤_;rw [Nl];simp only [Tr.cnt,Hr]
  split<;>split<;>simp only [List.length_append,List.length_cons,List.length_nil]<;>omega
 | _,.call x .nil,o,hf,hn,hs=>by
  have hx:x.length≤1000:=hs {kind:=7,text:=x,kids:=Tr.nil.kids o} (by simp [Tr.flat]);show _+1≤_;rw [JV x o];simp only [Tr.cnt,Tr.row,G1,List.length_append,List.length_cons,List.length_nil]
  omega
 | _,.call x (.snoc rs a),o,hf,hn,hs=>by
  have hx:x.length≤1000:=hs {kind:=7,text:=x,kids:=(Tr.snoc rs a).kids o} (by simp [Tr.flat]);have hr:rs.text.length+0≤_:=len_le rs o hf.2.1 (λu hu=>hn u (by simp only [Tr.toks];simp [hu])) (λn hm=>hs n (by simp only [Tr.flat];simp [hm]));have ha:a.text.length+1≤_:=len_le a (o+rs.cnt) hf.2.2 (λu hu=>hn u (by simp only [Tr.toks];simp [hu])) (λn hm=>hs n (by simp only [Tr.flat];simp [hm]));have e:(Tr.call x (.snoc rs a)).text.length=x.length+1+(rs.text.length+(a.text.length+1)):=by
   rw [N7];simp only [List.length_append,List.length_cons,List.length_nil];omega
  show _+1≤_;rw [e];simp only [Tr.cnt]
  omega
 | _,.nil,o,_,_,_=>by show _+0≤_;simp [Tr.text,Tr.toks]
 | _,.snoc rs a,o,hf,hn,hs=>by
  have hr:rs.text.length+0≤_:=len_le rs o hf.1 (λu hu=>hn u (by simp only [Tr.toks];simp [hu])) (λn hm=>hs n (by simp only [Tr.flat];simp [hm]));have ha:a.text.length+1≤_:=len_le a (o+rs.cnt) hf.2 (λu hu=>hn u (by simp only [Tr.toks];simp [hu])) (λn hm=>hs n (by simp only [Tr.flat];simp [hm]));have hp:=a.cnt_pos;have e:(Tr.snoc rs a).text.length=rs.text.length+a.text.length+1:=by rw [Oj];simp only [List.length_append,List.length_cons,List.length_nil];omega
  show _+0≤_;rw [e];simp only [Tr.cnt];omega
def Iz (l:List Ag):Prop:=∀t:Tr false,t.Fit→t.flat 0=l→t.Num
theorem Vf {l:List Ag} (h:∀n∈l,n.num≤9223372036854775807):Iz l:=λt hf e=>t.num_of 0 hf (by rw [e];exact h)
theorem W3.num {s:List UInt8} {l:List Ag} {e:Int} (h:W3 s l e):Iz l:=by
 intro t hf et;rcases h with ⟨h,rfl⟩ | ⟨_,rfl,_⟩
 ·obtain ⟨_,_,_,u,hu,hn,e1,_⟩:=HB h;have:=Tr.inj t u hf hu [] [] (by simpa using et.trans e1.symm) (.inl rfl);rw [this.1];exact hn
 ·have:=t.flat_len 0;rw [et] at this;have:=t.cnt_pos;simp at *;omega
end Go.Proofs.YtefaigjfkddelaaGreatDoor
