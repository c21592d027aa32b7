/-
  Joined by program out of the texts TreeP ShowP ShowQ ShowR ShowS ShowT NodesM ShowU.
-/
import Derived.Test.YtefaigjfkddelaaGreatDoorCkB
import Derived.Test.YtefaigjfkddelaaGreatDoorCkE
namespace Go.Proofs.YtefaigjfkddelaaGreatDoor
open Go Go.E
def Bd (T:List Ak):Nat→E7→Bw→Option FL
 | 0,_,_=>none
 | n+1,.lev k,s=>match Bd T n (below k) s with
  | some (.ok s1 a)=>Bd T n (.loop k a) s1
  | some (.err e)=>some (.err e)
  | none=>none
 | n+1,.loop k a,s=>match GH T s k with
  | none=>some (.ok s a)
  | some i=>match Bd T n (below k) (An s) with
   | some (.ok s1 b)=>Bd T n (.loop k s1.out.length) (Bq s1 {kind:=(A6 k).getD i 0,kids:=[(a:Int),(b:Int)]})
   | some (.err e)=>some (.err e)
   | none=>none
 | n+1,.unary,s=>if BD T s [45]=true then (if 12≤s.deep then some (.err 6) else match Bd T n .unary (Aq (An s)) with
   | some (.ok s1 a)=>some (.ok (Bq (BP s1) {kind:=8,kids:=[(a:Int)]}) s1.out.length)
   | some (.err e)=>some (.err e)
   | none=>none) else Bd T n .prim s
 | n+1,.prim,s=>
  if (Aa T s).kind=5 then
   if BD T s [40]=true then (if 12≤s.deep then some (.err 6) else match Bd T n (.lev 0) (Aq (An s)) with
    | some (.ok s1 a)=>if BD T s1 [41]=true then some (.ok (BP (An s1)) a) else some (.err 5)
    | some (.err e)=>some (.err e)
    | none=>none)
   else some (.err 5)
  else if (Aa T s).kind=0 then some (.err 5)
  else if (Aa T s).kind=1 then some (.ok (Bq (An s) {kind:=1,num:=(Aa T s).num}) s.out.length)
  else if (Aa T s).kind=2 then some (.ok (Bq (An s) {kind:=2,text:=(Aa T s).text}) s.out.length)
  else if (Aa T s).kind=6 then some (.ok (Bq (An s) {kind:=4}) s.out.length)
  else if (Aa T s).kind=4 then
   if BD T (An s) [58]=true then
    if (Aa T (An (An s))).kind=4∧Bk (Aa T s).ref (Aa T (An (An s))).ref=true then some (.ok (Bq (An (An (An s))) {kind:=6,ref:=(Aa T s).ref,to:=(Aa T (An (An s))).ref}) s.out.length)
    else some (.err 5)
   else some (.ok (Bq (An s) {kind:=5,ref:=(Aa T s).ref}) s.out.length)
  else if (Aa T s).kind=3 then
   if (Aa T s).text=Db then some (.ok (Bq (An s) {kind:=3,num:=1}) s.out.length)
   else if (Aa T s).text=C3 then some (.ok (Bq (An s) {kind:=3}) s.out.length)
   else if BD T (An s) [40]=true then
    if 12≤s.deep then some (.err 6)
    else if BD T (Aq (An (An s))) [41]=true then some (.ok (Bq (BP (An (Aq (An (An s))))) {kind:=7,text:=(Aa T s).text}) s.out.length)
    else Bd T n (.args (Aa T s).text []) (Aq (An (An s)))
   else some (.err 5)
  else none
 | n+1,.args x ks,s=>match Bd T n (.lev 0) s with
  | some (.ok s1 a)=>if BD T s1 [44]=true then Bd T n (.args x (ks++[(a:Int)])) (An s1)
   else if BD T s1 [41]=true then some (.ok (Bq (BP (An s1)) {kind:=7,text:=x,kids:=ks++[(a:Int)]}) s1.out.length)
   else some (.err 5)
  | some (.err e)=>some (.err e)
  | none=>none
theorem Mx {T:List Ak} {s:Bw} {x:List UInt8} (h:BD T s x=true):(Aa T s).kind=5:=by
 simp [BD] at h;exact h.1
theorem Vm {T:List Ak} {s:Bw} {x:List UInt8} (h2:(Aa T s).text≠x):BD T s x=false:=by
 simp [BD,h2]
theorem PE.eval {T:List Ak} {m:E7} {s:Bw} {r:FL} (h:PE T m s r):∃N,∀n,N≤n→Bd T n m s=some r:=by
 induction h with
 | lev_err _ ih=>
  obtain ⟨N,ih⟩:=ih;refine ⟨N+1,λn hn=>?_⟩;obtain ⟨n,rfl⟩:∃k,n=k+1:=⟨n - 1,by omega⟩
  simp only [Bd,ih n (by omega)]
 | lev_ok _ _ ih1 ih2=>
  obtain ⟨N,ih1⟩:=ih1;obtain ⟨M,ih2⟩:=ih2;refine ⟨N+M+1,λn hn=>?_⟩;obtain ⟨n,rfl⟩:∃k,n=k+1:=⟨n - 1,by omega⟩
  simp only [Bd,ih1 n (by omega),ih2 n (by omega)]
 | loop_end h=>
  refine ⟨1,λn hn=>?_⟩;obtain ⟨n,rfl⟩:∃k,n=k+1:=⟨n - 1,by omega⟩
  simp only [Bd,h]
 | loop_err h _ ih=>
  obtain ⟨N,ih⟩:=ih;refine ⟨N+1,λn hn=>?_⟩;obtain ⟨n,rfl⟩:∃k,n=k+1:=⟨n - 1,by omega⟩
  simp only [Bd,h,ih n (by omega)]
 | loop_go h _ _ ih1 ih2=>
  obtain ⟨N,ih1⟩:=ih1;obtain ⟨M,ih2⟩:=ih2;refine ⟨N+M+1,λn hn=>?_⟩;obtain ⟨n,rfl⟩:∃k,n=k+1:=⟨n - 1,by omega⟩
  simp only [Bd,h,ih1 n (by omega),ih2 n (by omega)]
 | un_prim h _ ih=>
  obtain ⟨N,ih⟩:=ih;refine ⟨N+1,λn hn=>?_⟩;obtain ⟨n,rfl⟩:∃k,n=k+1:=⟨n - 1,by omega⟩
  simp only [Bd,h,ih n (by omega),Bool.false_eq_true,if_false]
 | un_deep h hd=>
  refine ⟨1,λn hn=>?_⟩;obtain ⟨n,rfl⟩:∃k,n=k+1:=⟨n - 1,by omega⟩
  simp only [Bd,h,hd,if_true]
 | un_err h hd _ ih=>
  obtain ⟨N,ih⟩:=ih;refine ⟨N+1,λn hn=>?_⟩;obtain ⟨n,rfl⟩:∃k,n=k+1:=⟨n - 1,by omega⟩
  simp only [Bd,h,ih n (by omega),if_true,Nat.not_le.2 hd,if_false]
 | un_ok h hd _ ih=>
  obtain ⟨N,ih⟩:=ih;refine ⟨N+1,λn hn=>?_⟩;obtain ⟨n,rfl⟩:∃k,n=k+1:=⟨n - 1,by omega⟩
  simp only [Bd,h,ih n (by omega),if_true,Nat.not_le.2 hd,if_false]
 | pr_sign h h2=>
  refine ⟨1,λn hn=>?_⟩;obtain ⟨n,rfl⟩:∃k,n=k+1:=⟨n - 1,by omega⟩
  simp only [Bd,h,if_true,Vm h2,Bool.false_eq_true,if_false]
 | pr_deep h hd=>
  refine ⟨1,λn hn=>?_⟩;obtain ⟨n,rfl⟩:∃k,n=k+1:=⟨n - 1,by omega⟩
  simp only [Bd,Mx h,h,hd,if_true]
 | pr_err h hd _ ih=>
  obtain ⟨N,ih⟩:=ih;refine ⟨N+1,λn hn=>?_⟩;obtain ⟨n,rfl⟩:∃k,n=k+1:=⟨n - 1,by omega⟩
  simp only [Bd,Mx h,h,ih n (by omega),if_true,Nat.not_le.2 hd,if_false]
 | pr_open h hd _ h2 ih=>
  obtain ⟨N,ih⟩:=ih;refine ⟨N+1,λn hn=>?_⟩;obtain ⟨n,rfl⟩:∃k,n=k+1:=⟨n - 1,by omega⟩
  simp only [Bd,Mx h,h,ih n (by omega),if_true,Nat.not_le.2 hd,if_false,h2,Bool.false_eq_true]
 | pr_ok h hd _ h2 ih=>
  obtain ⟨N,ih⟩:=ih;refine ⟨N+1,λn hn=>?_⟩;obtain ⟨n,rfl⟩:∃k,n=k+1:=⟨n - 1,by omega⟩
  simp only [Bd,Mx h,h,ih n (by omega),if_true,Nat.not_le.2 hd,if_false,h2]
 | pr_end h | pr_num h | pr_text h | pr_dead h=>
  refine ⟨1,λn hn=>?_⟩;obtain ⟨n,rfl⟩:∃k,n=k+1:=⟨n - 1,by omega⟩
  simp [Bd,h]
 | pr_ref h h2 | pr_true h h2 | pr_false h h2=>
  refine ⟨1,λn hn=>?_⟩;obtain ⟨n,rfl⟩:∃k,n=k+1:=⟨n - 1,by omega⟩
  simp [Bd,h,h2,Db,C3]
 | pr_norange h h2 h3=>
  refine ⟨1,λn hn=>?_⟩;obtain ⟨n,rfl⟩:∃k,n=k+1:=⟨n - 1,by omega⟩;have h4:¬((Aa T (An (An _))).kind=4∧Bk (Aa T _).ref (Aa T (An (An _))).ref=true):=λhh=>by
   rcases h3 with h3 | h3
   ·exact h3 hh.1
   ·rw [hh.2] at h3;cases h3
  simp only [Bd,h,h2,if_neg h4]
  rfl
 | pr_range h h2 h3 h4=>
  refine ⟨1,λn hn=>?_⟩;obtain ⟨n,rfl⟩:∃k,n=k+1:=⟨n - 1,by omega⟩
  simp [Bd,h,h2,h3,h4]
 | pr_nocall h h2 h3 h4=>
  refine ⟨1,λn hn=>?_⟩;obtain ⟨n,rfl⟩:∃k,n=k+1:=⟨n - 1,by omega⟩
  simp [Bd,h,h2,h3,h4]
 | pr_calldeep h h2 h3 h4 h5=>
  refine ⟨1,λn hn=>?_⟩;obtain ⟨n,rfl⟩:∃k,n=k+1:=⟨n - 1,by omega⟩
  simp [Bd,h,h2,h3,h4,h5]
 | pr_call0 h h2 h3 h4 h5 h6=>
  refine ⟨1,λn hn=>?_⟩;obtain ⟨n,rfl⟩:∃k,n=k+1:=⟨n - 1,by omega⟩
  simp [Bd,h,h2,h3,h4,Nat.not_le.2 h5,h6]
 | pr_call h h2 h3 h4 h5 h6 _ ih=>
  obtain ⟨N,ih⟩:=ih;refine ⟨N+1,λn hn=>?_⟩;obtain ⟨n,rfl⟩:∃k,n=k+1:=⟨n - 1,by omega⟩;have:=ih n (by omega)
  simp [Bd,h,h2,h3,h4,Nat.not_le.2 h5,h6,this]
 | ar_err _ ih=>
  obtain ⟨N,ih⟩:=ih;refine ⟨N+1,λn hn=>?_⟩;obtain ⟨n,rfl⟩:∃k,n=k+1:=⟨n - 1,by omega⟩
  simp only [Bd,ih n (by omega)]
 | ar_go _ h _ ih1 ih2=>
  obtain ⟨N,ih1⟩:=ih1;obtain ⟨M,ih2⟩:=ih2;refine ⟨N+M+1,λn hn=>?_⟩;obtain ⟨n,rfl⟩:∃k,n=k+1:=⟨n - 1,by omega⟩
  simp only [Bd,ih1 n (by omega),h,if_true,ih2 n (by omega)]
 | ar_open _ h h2 ih=>
  obtain ⟨N,ih⟩:=ih;refine ⟨N+1,λn hn=>?_⟩;obtain ⟨n,rfl⟩:∃k,n=k+1:=⟨n - 1,by omega⟩
  simp only [Bd,ih n (by omega),h,h2,Bool.false_eq_true,if_false]
 | ar_end _ h h2 ih=>
  obtain ⟨N,ih⟩:=ih;refine ⟨N+1,λn hn=>?_⟩;obtain ⟨n,rfl⟩:∃k,n=k+1:=⟨n - 1,by omega⟩;simp only [Bd,ih n (by omega),h,h2,Bool.false_eq_true,if_false,if_true]
theorem PE.det {T:List Ak} {m:E7} {s:Bw} {r r':FL} (h:PE T m s r) (h':PE T m s r'):r=r':=by
 obtain ⟨N,h⟩:=h.eval;obtain ⟨M,h'⟩:=h'.eval;have:=(h (N+M) (by omega)).symm.trans (h' (N+M) (by omega))
 simpa using this
theorem CQ.det {T:List Ak} {o o':Except Int (List Ab)} (h:CQ T o) (h':CQ T o'):o=o':=by
 unfold CQ at h h'
 split at h<;>split at h'
 ·rcases h with h | ⟨rfl,s,a,h,hk⟩<;>rcases h' with h' | ⟨rfl,s',a',h',a0⟩
  ·have:=h.det h';simp only [FL.err.injEq] at this;rw [this]
  ·cases h.det h'
  ·cases h.det h'
  ·rfl
 ·obtain ⟨s',a',h',a0,rfl⟩:=h';rcases h with h | ⟨rfl,s,a,h,hk⟩
  ·cases h.det h'
  ·have:=h.det h';simp only [FL.ok.injEq] at this;obtain ⟨rfl,rfl⟩:=this;exact absurd a0 hk
 ·obtain ⟨s,a,h,hk,rfl⟩:=h;rcases h' with h' | ⟨rfl,s',a',h',a0⟩
  ·cases h.det h'
  ·have:=h.det h';simp only [FL.ok.injEq] at this;obtain ⟨rfl,rfl⟩:=this;exact absurd hk a0
 ·obtain ⟨s,a,h,hk,rfl⟩:=h;obtain ⟨s',a',h',a0,rfl⟩:=h';have:=h.det h';simp only [FL.ok.injEq] at this;rw [this.1]
structure H1 (t:Ak):Prop where
 num:t.kind=1→0≤t.num
 text:t.kind=2→KW t.text=true
 word:t.kind=3→KP t.text=true∧AQ t.text=false
 ref:t.kind=4→AV t.ref=true
 len:t.text.length≤1000
theorem NT {c:UInt8} {l:List UInt8} (hc:¬c<32) (h:KW l=true):KW (c::l)=true:=by
 simp only [KW,decide_eq_true_eq] at h ⊢;intro j hj
 cases j with
 | zero=>
  show 32≤(c.toNat:Int);have:¬c.toNat<32:=λhh=>hc (UInt8.lt_iff_toNat_lt.2 (by simpa using hh))
  omega
 | succ j=>exact h j (by simpa using hj)
theorem Jv:∀(l:List UInt8) {x:List UInt8×Nat},AA l=some x→KW x.1=true∧x.1.length≤l.length
 | [],x,h=>by simp [AA] at h
 | [c],x,h=>by
  simp only [AA] at h
  split at h
  ·simp only [Option.some.injEq] at h;subst h;exact ⟨rfl,by simp⟩
  ·cases h
 | c::d::r,x,h=>by
  simp only [AA] at h
  split at h
  ·split at h
   ·cases e:AA r with
    | none=>rw [e] at h;cases h
    | some y=>
     rw [e] at h;simp only [Option.map_some,Option.some.injEq] at h;have:=Jv r e;subst h;exact ⟨NT (by decide) this.1,by simp;omega⟩
   ·simp only [Option.some.injEq] at h;subst h;exact ⟨rfl,by simp⟩
  ·split at h
   ·cases h
   ·rename_i hc
    cases e:AA (d::r) with
    | none=>rw [e] at h;cases h
    | some y=>
     rw [e] at h;simp only [Option.map_some,Option.some.injEq] at h;have:=Jv (d::r) e;subst h;exact ⟨NT hc this.1,by have:=this.2;simp at this ⊢;omega⟩
theorem Pi {s:List UInt8} (h:AQ s=true):AV (Dj s)=true:=by
 simp only [AQ,Bool.and_eq_true,decide_eq_true_eq,Bool.not_eq_true',decide_eq_false_iff_not] at h
 cases hm:AV (Dj s) with
 | true=>rfl
 | false=>
  have:=h.1.2;rw [CG,hm] at this;exact absurd this.symm h.2
theorem Ux {l:List UInt8} {t:Ak} {k:Nat} (hl:l.length≤1000) (h:C5 l=some (t,k)):H1 t:=by
 unfold C5 at h
 split at h
 ·rename_i h0;have a0:Al Av l≠[]:=by
   have:=(Ih (p:=Av) (l:=l) (by
    cases l with
    | nil=>cases h0
    | cons a b=>simp) h0).1
   exact List.length_pos_iff.1 this
  rw [M4 a0] at h
  split at h
  ·simp only [Option.some.injEq,Prod.mk.injEq] at h;rw [←h.1];exact ⟨λ_=>(G5 _ (λj hj=>by
   have hh:=Gk Av l _ (List.getElem_mem hj)
   simpa [Ae,List.getD_eq_getElem?_getD,List.getElem?_eq_getElem hj] using hh)).1,by simp,by simp,by simp,by simp⟩
  ·cases h
 ·split at h
  ·unfold Fs at h
   cases e:AA (l.drop 1) with
   | none=>rw [e] at h;cases h
   | some x=>
    rw [e] at h;simp only [Option.map_some,Option.some.injEq,Prod.mk.injEq] at h;have:=Jv _ e;rw [←h.1];exact ⟨by simp,λ_=>this.1,by simp,by simp,by have:=this.2;simp at this ⊢;omega⟩
  ·split at h
   ·unfold Gm at h;simp only at h;have a1:=GD Ik l
    split at h
    ·rename_i hr;simp only [Option.some.injEq,Prod.mk.injEq] at h;rw [←h.1];exact ⟨by simp,by simp,by simp,λ_=>Pi hr,by simp⟩
    ·rename_i hr
     split at h
     ·rename_i hf;simp only [Option.some.injEq,Prod.mk.injEq] at h;rw [←h.1];exact ⟨by simp,by simp,λ_=>⟨hf,by simpa using hr⟩,by simp,by show (Al Ik l).length≤1000;omega⟩
     ·cases h
   ·unfold FG at h
    split at h
    ·simp only [Option.some.injEq,Prod.mk.injEq] at h;rw [←h.1];exact ⟨by simp,by simp,by simp,by simp,by simp⟩
    ·cases e:AN.find? λs=>Lib.hasPrefix l s with
     | none=>rw [e] at h;cases h
     | some x=>
      rw [e] at h;simp only [Option.map_some,Option.some.injEq,Prod.mk.injEq] at h;have:=K2 (List.find?_some e);rw [←h.1];exact ⟨by simp,by simp,by simp,by simp,by show x.length≤1000;omega⟩
theorem Ma (a:Int):H1 ⟨0,[],0,AF,a⟩:=⟨by simp,by simp,by simp,by simp,by simp⟩
theorem PV:∀(n:Nat) (l:List UInt8) (a:Nat) {out:List Ak},l.length≤n→l.length≤1000→EQ l a=some out→∀t∈out,H1 t
 | n,l,a,out,hn,hl,h=>by
  cases e:l.drop (Al Hv l).length with
  | nil=>
   rw [Ff e] at h;simp only [Option.some.injEq] at h;subst h;intro t ht;rw [List.mem_singleton.1 ht]
   exact Ma _
  | cons c r=>
   have hl':=congrArg List.length e;simp at hl'
   cases ho:C5 (c::r) with
   | none=>rw [FV e (by simp) ho] at h;cases h
   | some x=>
    obtain ⟨t,k⟩:=x;have hk:=Fh (by simp) ho;have hok:=Ux (by simp;omega) ho;rw [G1 e (by simp) ho hk] at h
    cases hr:EQ ((c::r).drop k) (a+(Al Hv l).length+k) with
    | none=>rw [hr] at h;cases h
    | some y=>
     rw [hr] at h;simp only [Option.map_some,Option.some.injEq] at h;subst h
     match n with
     | 0=>omega
     | n+1=>
      have hd:((c::r).drop k).length=r.length+1 - k:=by simp
      have:=PV n ((c::r).drop k) _ (by rw [hd];omega) (by rw [hd];omega) hr;intro t' ht;rcases List.mem_cons.1 ht with rfl | ht
      ·exact ⟨hok.num,hok.text,hok.word,hok.ref,hok.len⟩
      ·exact this t' ht
theorem Uu {s:List UInt8} {T:List Ak} (hs:s.length≤1000) (h:He s=some T):∀t∈T,H1 t:=PV _ s 0 (Nat.le_refl _) hs h
theorem E5 {T:List Ak} (h:∀t∈T,H1 t) (s:Bw):H1 (Aa T s):=by
 unfold Aa;rcases Nat.lt_or_ge s.at_ T.length with hl | hl
 ·rw [List.getD_eq_getElem?_getD,List.getElem?_eq_getElem hl];exact h _ (List.getElem_mem hl)
 ·rw [List.getD_eq_getElem?_getD,List.getElem?_eq_none hl];exact Ma 0
theorem CT:∀(l m:List Ab) (i:Nat) (st:List Int),AR i st (l++m)=(AR i st l).bind λst'=>AR (i+l.length) st' m
 | [],m,i,st=>by simp [AR]
 | n::t,m,i,st=>by
  rw [List.cons_append,AR,AR]
  cases CP i st n with
  | none=>rfl
  | some st'=>
   simp only;rw [CT t m (i+1) st',List.length_cons,show i+1+t.length=i+(t.length+1) by omega]
theorem Gl {l:List Ab} {i:Nat} {st st' ks:List Int} {n:Ab} (h:AR i st l=some (st'++ks)) (hk:n.kids=ks) (hc:Hb n=n.kids.length) (hp:A3 n=true):AR i st (l++[n])=some (st'++[((i+l.length:Nat):Int)]):=by
 subst hk;rw [CT,h];simp only [Option.bind_some,AR,CP];have e:(st'++n.kids).length - n.kids.length=st'.length:=by simp
 rw [e,if_pos ⟨hc,by simp,by simp,hp⟩];simp
theorem BL {n:Ab} (h:G6 n=true) (hb:(AO n).num=0∧(AO n).text=[]∧(AO n).ref=AF∧(AO n).to=AF):A3 n=true:=by
 simp [A3,h,hb]
def E8 (s s1:Bw) (ks:List Int) (a:Nat):Prop:=
 ∃new,s1.out=s.out++new∧Dw new∧∀st,AR s.out.length (st++ks) new=some (st++[(a:Int)])
theorem E8.same {s s1 s2 s3:Bw} {ks:List Int} {a:Nat} (h:E8 s s1 ks a) (e1:s2.out=s.out) (e2:s3.out=s1.out):E8 s2 s3 ks a:=by
 obtain ⟨new,h1,h2,h3⟩:=h;exact ⟨new,by rw [e2,e1,h1],h2,by rw [e1];exact h3⟩
theorem LS {l m:List Ab} (h:Dw l) (k:Dw m):Dw (l++m):=λn hn=>by
 rcases List.mem_append.1 hn with hn | hn
 ·exact h n hn
 ·exact k n hn
theorem E8.nil (s s1:Bw) (a:Nat) (e:s1.out=s.out):E8 s s1 [(a:Int)] a:=⟨[],by simp [e],(λn hn=>by cases hn),λst=>by simp [AR]⟩
theorem E8.trans {s s1 s2:Bw} {ks:List Int} {a b:Nat} (h:E8 s s1 ks a) (k:E8 s1 s2 [(a:Int)] b):E8 s s2 ks b:=by
 obtain ⟨n1,e1,p1,t1⟩:=h;obtain ⟨n2,e2,p2,t2⟩:=k;refine ⟨n1++n2,by rw [e2,e1,List.append_assoc],LS p1 p2,λst=>?_⟩;rw [CT,t1];simp only [Option.bind_some];have:=t2 st;rw [e1,List.length_append] at this;exact this
theorem E8.more {s s1 s2:Bw} {ks ks1:List Int} {a b:Nat} (h:E8 s s1 ks a) (k:E8 s1 s2 (ks1++[(a:Int)]) b):E8 s s2 (ks1++ks) b:=by
 obtain ⟨n1,e1,p1,t1⟩:=h;obtain ⟨n2,e2,p2,t2⟩:=k;refine ⟨n1++n2,by rw [e2,e1,List.append_assoc],LS p1 p2,λst=>?_⟩;rw [CT,←List.append_assoc,t1];simp only [Option.bind_some];have:=t2 st;rw [e1,List.length_append] at this;rw [List.append_assoc];exact this
theorem E8.node {s s2 s3:Bw} {n:Ab} {ks:List Int} (hk:n.kids=ks) (hc:Hb n=n.kids.length) (hp:A3 n=true) (hs:n.text.length≤1000∧n.ref.sheet.length≤1000∧n.to.sheet.length≤1000) (e:s3.out=s.out++[n]) (e2:s2.out=s.out):E8 s2 s3 ks s.out.length:=by
 refine ⟨[n],by rw [e,e2],λx hx=>by rw [List.mem_singleton.1 hx];exact hs,λst=>?_⟩;have:=Gl (l:=[]) (i:=s2.out.length) (st:=st++ks) (st':=st) (ks:=ks) rfl hk hc hp
 simpa [e2] using this
theorem Gj {x:Cn} (h:AV x=true):x.sheet.length≤1000:=by
 simp only [AV,Bool.and_eq_true,Bool.or_eq_true,decide_eq_true_eq] at h;rcases h.1.1.1.1 with h | h
 ·rw [h];simp
 ·simp only [Dm,Bool.and_eq_true,decide_eq_true_eq] at h;omega
theorem AC:AF.sheet.length≤1000:=by decide
def V9 (m:E7) (s:Bw):FL→Prop
 | .err _=>True
 | .ok s1 b=>match m with
  | .loop _ a=>E8 s s1 [(a:Int)] b
  | .args x ks=>Co x=true→E8 s s1 ks b
  | _=>E8 s s1 [] b
theorem K3 {n:Nat} {s s1:Bw} {a:Nat} (h:V9 (below n) s (.ok s1 a)):E8 s s1 [] a:=by
 unfold below at h
 split at h<;>exact h
theorem Rg {T:List Ak} {s:Bw} {n i:Nat} (h:GH T s n=some i):9≤(A6 n).getD i 0∧(A6 n).getD i 0≤19:=by
 unfold GH at h
 split at h
 ·have hi:=(List.findIdx?_eq_some_iff_getElem.1 h).1;have e:(Bo n).length=(A6 n).length:=by
   unfold Bo A6
   match n with
   | 0=>rfl
   | 1=>rfl
   | 2=>rfl
   | _+3=>rfl
  have a0:∀z∈A6 n,9≤z∧z≤19:=by
   unfold A6
   match n with
   | 0=>decide
   | 1=>decide
   | 2=>decide
   | _+3=>
    show ∀z∈[18,19],(9:Int)≤z∧z≤19
    decide
  rw [List.getD_eq_getElem?_getD,List.getElem?_eq_getElem (by omega)];exact a0 _ (List.getElem_mem _)
 ·cases h
theorem KN {k:Int} (h0:9≤k) (h1:k≤19) (a b:Int):Hb {kind:=k,kids:=[a,b]}=2∧A3 {kind:=k,kids:=[a,b]}=true:=by
 have hc:C2 k=2:=by
  unfold C2;rw [if_neg (by omega),if_neg (by omega),if_neg (by omega),if_pos (by omega)]
 constructor
 ·simp [Hb,hc]
 ·have hb:AO {kind:=k,kids:=[a,b]}={kind:=k,kids:=[a,b]}:=by
   unfold AO;rw [if_neg (show ¬k=1 by omega),if_neg (show ¬k=3 by omega),if_neg (show ¬k=2 by omega),if_neg (show ¬k=7 by omega),if_neg (show ¬k=5 by omega),if_neg (show ¬k=6 by omega)]
  have ho:G6 {kind:=k,kids:=[a,b]}=true:=by
   unfold G6;rw [if_neg (show ¬k=1 by omega),if_neg (show ¬k=3 by omega),if_neg (show ¬k=2 by omega),if_neg (show ¬k=7 by omega),if_neg (show ¬k=5 by omega),if_neg (show ¬k=6 by omega)]
  exact BL ho (by rw [hb];exact ⟨rfl,rfl,rfl,rfl⟩)
theorem Gs {x:List UInt8} (h:Co x=true) (ks:List Int):Hb {kind:=7,text:=x,kids:=ks}=ks.length∧A3 {kind:=7,text:=x,kids:=ks}=true:=by
 refine ⟨if_pos rfl,BL h ⟨rfl,rfl,rfl,rfl⟩⟩
theorem Ko {x:List UInt8} (h:Co x=true):x.length≤1000:=by
 simp only [Co,KP,Bool.and_eq_true,decide_eq_true_eq] at h;omega
theorem Me {T:List Ak} (hT:∀t∈T,H1 t) {s:Bw} (h:(Aa T s).kind=3) (h1:(Aa T s).text≠Db) (h2:(Aa T s).text≠C3):Co (Aa T s).text=true:=by
 have:=(E5 hT s).word h;simp [Co,this,h1,h2]
theorem PE.puts {T:List Ak} (hT:∀t∈T,H1 t) {m:E7} {s:Bw} {r:FL} (h:PE T m s r):V9 m s r:=by
 induction h with
 | lev_err _ _=>trivial
 | @lev_ok n s s1 a r _ _ ih1 ih2=>
  cases r with
  | err e=>trivial
  | ok s2 b=>exact (K3 ih1).trans ih2
 | loop_end _=>exact E8.nil _ _ _ rfl
 | loop_err _ _ _=>trivial
 | @loop_go n s a i s1 b r hi _ _ ih1 ih2=>
  cases r with
  | err e=>trivial
  | ok s2 c=>
   obtain ⟨k0,k1⟩:=Rg hi;have hn:=KN k0 k1 (a:Int) (b:Int);have hp:E8 s1 (Bq s1 {kind:=(A6 n).getD i 0,kids:=[(a:Int),(b:Int)]}) ([(a:Int)]++[(b:Int)]) s1.out.length:=E8.node (s:=s1) rfl hn.1 hn.2 ⟨by simp,AC,AC⟩ rfl rfl;have h1:E8 s s1 [] b:=(K3 ih1).same rfl rfl;have:=h1.more hp
   exact this.trans ih2
 | @un_prim s r _ _ ih=>
  cases r with
  | err e=>trivial
  | ok s2 b=>exact ih
 | un_deep _ _=>trivial
 | un_err _ _ _ _=>trivial
 | @un_ok s s1 a _ _ _ ih=>
  have h1:E8 s s1 [] a:=E8.same ih rfl rfl;have hp:E8 s1 (Bq (BP s1) {kind:=8,kids:=[(a:Int)]}) ([]++[(a:Int)]) s1.out.length:=E8.node (s:=s1) rfl rfl rfl ⟨by simp,AC,AC⟩ rfl rfl
  exact h1.more hp
 | pr_sign _ _=>trivial
 | pr_deep _ _=>trivial
 | pr_err _ _ _ _=>trivial
 | pr_open _ _ _ _ _=>trivial
 | pr_ok _ _ _ _ ih=>exact E8.same ih rfl rfl
 | pr_end _=>trivial
 | @pr_num s h=>
  have h0:=(E5 hT s).num h
  exact E8.node (s:=s) rfl rfl (BL (by show decide (0≤(Aa T s).num)=true;simpa using h0) ⟨rfl,rfl,rfl,rfl⟩) ⟨by simp,AC,AC⟩ rfl rfl
 | @pr_text s h=>
  exact E8.node (s:=s) rfl rfl (BL (by show KW (Aa T s).text=true;exact (E5 hT s).text h) ⟨rfl,rfl,rfl,rfl⟩) ⟨(E5 hT s).len,AC,AC⟩ rfl rfl
 | @pr_dead s h=>exact E8.node (s:=s) rfl rfl rfl ⟨by simp,AC,AC⟩ rfl rfl
 | @pr_ref s h _=>
  have h0:=(E5 hT s).ref h
  exact E8.node (s:=s) rfl rfl (BL (by show AV (Aa T s).ref=true;exact h0) ⟨rfl,rfl,rfl,rfl⟩) ⟨by simp,Gj h0,AC⟩ rfl rfl
 | @pr_range s h _ h' hr=>
  have h0:=(E5 hT s).ref h;have h1:=(E5 hT (An (An s))).ref h'
  exact E8.node (s:=s) rfl rfl (BL (by show (AV (Aa T s).ref&&(AV (Aa T (An (An s))).ref&&Bk (Aa T s).ref (Aa T (An (An s))).ref))=true;rw [h0,h1,hr];rfl) ⟨rfl,rfl,rfl,rfl⟩) ⟨by simp,Gj h0,Gj h1⟩ rfl rfl
 | pr_norange _ _ _=>trivial
 | @pr_true s _ _=>exact E8.node (s:=s) rfl rfl rfl ⟨by simp,AC,AC⟩ rfl rfl
 | @pr_false s _ _=>exact E8.node (s:=s) rfl rfl rfl ⟨by simp,AC,AC⟩ rfl rfl
 | pr_nocall _ _ _ _=>trivial
 | pr_calldeep _ _ _ _ _=>trivial
 | @pr_call0 s h h1 h2 _ _ _=>
  have hn:=Me hT h h1 h2;have hc:=Gs hn []
  exact E8.node (s:=s) rfl hc.1 hc.2 ⟨Ko hn,AC,AC⟩ rfl rfl
 | @pr_call s r h h1 h2 _ _ _ _ ih=>
  cases r with
  | err e=>trivial
  | ok s2 b=>exact E8.same (ih (Me hT h h1 h2)) rfl rfl
 | ar_err _ _=>trivial
 | @ar_go x ks s s1 a r _ _ _ ih1 ih2=>
  cases r with
  | err e=>trivial
  | ok s2 b=>
   intro hn;have h2:E8 s1 s2 (ks++[(a:Int)]) b:=E8.same (ih2 hn) rfl rfl;have h1:E8 s s1 [] a:=ih1;have:=h1.more h2
   rwa [List.append_nil] at this
 | ar_open _ _ _ _=>trivial
 | @ar_end x ks s s1 a _ _ _ ih=>
  intro hn;have hc:=Gs hn (ks++[(a:Int)]);have hp:E8 s1 (Bq (BP (An s1)) {kind:=7,text:=x,kids:=ks++[(a:Int)]}) (ks++[(a:Int)]) s1.out.length:=E8.node (s:=s1) rfl hc.1 hc.2 ⟨Ko hn,AC,AC⟩ rfl rfl;have h1:E8 s s1 [] a:=ih;have:=h1.more hp
  rwa [List.append_nil] at this
theorem CQ.tree {T:List Ak} {l:List Ab} (hT:∀t∈T,H1 t) (h:CQ T (.ok l)):BI l=true∧Dw l:=by
 obtain ⟨s,a,hp,_,he⟩:=h;obtain ⟨new,h1,h2,h3⟩:E8 ⟨0,[],0⟩ s [] a:=hp.puts hT;have:l=new:=by rw [←he,h1];rfl
 subst this;refine ⟨?_,h2⟩;have h4:AR 0 [] l=some [(a:Int)]:=h3 [];rw [BI,h4];rfl
def HP:List (List UInt8):=[[61],[60,62],[60],[60,61],[62],[62,61],[38],[43],[45],[42],[47]]
theorem Uy {u:Nat} (hu:u≤9223372036854775807) {R:List UInt8} (hR:R=[]∨Av (Ae R 0)=false):C5 (Lib.decDigits u++R)=some (⟨1,[],u,AF,0⟩,(Lib.decDigits u).length):=by
 obtain ⟨h1,h2,h3,h4,h5⟩:=Ej u u (Nat.le_refl _);have h0:Av (Ae (Lib.decDigits u++R) 0)=true:=by
  rw [D7 h2];obtain ⟨c,hm,e⟩:=Et (List.length_pos_iff.2 h2);rw [e];exact h1 c hm
 have hs:Al Av (Lib.decDigits u++R)=Lib.decDigits u:=by
  rw [EF Av _ R h1];have:Al Av R=[]:=by
   rcases hR with rfl | h
   ·rfl
   ·cases R with
    | nil=>rfl
    | cons c r=>
     have:Av (c.toNat:Int)=false:=h;simp [Al,this]
  rw [this,List.append_nil]
 have hc:((u:Nat):Int)≤9223372036854775807∧(Ae (Lib.decDigits u) 0≠48∨(Lib.decDigits u).length=1):=by
  refine ⟨by omega,?_⟩;by_cases hz:u=0
  ·exact .inr (h5 hz)
  ·exact .inl (h4 hz)
 rw [C5,h0,if_pos rfl,M4 (by rw [hs];exact h2),hs,h3,if_pos hc]
theorem Rj {X R:List UInt8} {t:Ak} {a:Nat} (hX:X≠[]) (hb:Ae X 0≠32) (h1:C5 (X++R)=some (t,X.length)):EQ (X++R) a=(EQ R (a+X.length)).map ({t with at_:=(a:Int)}::·):=by
 have hs:Al Hv (X++R)=[]:=by
  cases X with
  | nil=>exact absurd rfl hX
  | cons c r=>
   have:Hv (c.toNat:Int)=false:=by simp [Hv];exact hb
   simp [Al,this]
 have:=G1 (l:=X++R) (l':=X++R) (a:=a) (t:=t) (k:=X.length) (by rw [hs];rfl) (by simp [hX]) h1 (List.length_pos_iff.2 hX);rw [this,hs];simp [List.drop_left']
theorem JJ (u:Nat):Av (Ae (Lib.decDigits u) 0)=true∧Lib.decDigits u≠[]∧Ae (Lib.decDigits u) 0≠32:=by
 obtain ⟨h1,h2,_⟩:=Ej u u (Nat.le_refl _);obtain ⟨c,hm,e⟩:=Et (List.length_pos_iff.2 h2);exact ⟨by rw [e];exact h1 c hm,h2,S8 h2 h1⟩
inductive Tr:Bool→Type where
 | leaf (n:Ab):Tr false
 | neg (a:Tr false):Tr false
 | two (k:Int) (a b:Tr false):Tr false
 | call (x:List UInt8) (ks:Tr true):Tr false
 | nil:Tr true
 | snoc (ks:Tr true) (a:Tr false):Tr true
def Tr.cnt:{b:Bool}→Tr b→Nat
 | _,.leaf _=>1
 | _,.neg a=>a.cnt+1
 | _,.two _ a b=>a.cnt+b.cnt+1
 | _,.call _ ks=>ks.cnt+1
 | _,.nil=>0
 | _,.snoc ks a=>ks.cnt+a.cnt
def Tr.kids (o:Nat):{b:Bool}→Tr b→List Int
 | _,.snoc ks a=>ks.kids o++[((o+ks.cnt+a.cnt - 1:Nat):Int)]
 | _,_=>[]
def Tr.flat:(o:Nat)→{b:Bool}→Tr b→List Ab
 | _,_,.leaf n=>[n]
 | o,_,.neg a=>a.flat o++[{kind:=8,kids:=[((o+a.cnt - 1:Nat):Int)]}]
 | o,_,.two k a b=>a.flat o++b.flat (o+a.cnt)++[{kind:=k,kids:=[((o+a.cnt - 1:Nat):Int),((o+a.cnt+b.cnt - 1:Nat):Int)]}]
 | o,_,.call x ks=>ks.flat o++[{kind:=7,text:=x,kids:=ks.kids o}]
 | _,_,.nil=>[]
 | o,_,.snoc ks a=>ks.flat o++a.flat (o+ks.cnt)
def Tr.Fit:{b:Bool}→Tr b→Prop
 | _,.leaf n=>1≤n.kind∧n.kind≤6∧n.kids=[]∧A3 n=true
 | _,.neg a=>a.Fit
 | _,.two k a b=>9≤k∧k≤19∧a.Fit∧b.Fit
 | _,.call x ks=>Co x=true∧ks.Fit
 | _,.nil=>True
 | _,.snoc ks a=>ks.Fit∧a.Fit
theorem Tr.flat_len:∀{b:Bool} (t:Tr b) (o:Nat),(t.flat o).length=t.cnt
 | _,.leaf n,o=>rfl
 | _,.neg a,o=>by simp [Tr.flat,Tr.cnt,flat_len a]
 | _,.two k a b,o=>by simp [Tr.flat,Tr.cnt,flat_len a,flat_len b];omega
 | _,.call x ks,o=>by simp [Tr.flat,Tr.cnt,flat_len ks]
 | _,.nil,o=>rfl
 | _,.snoc ks a,o=>by simp [Tr.flat,Tr.cnt,flat_len ks,flat_len a]
theorem Tr.snoc_form (ts:Tr true):ts=.nil∨∃ks a,ts=.snoc ks a:=by
 cases ts with
 | nil=>exact .inl rfl
 | snoc ks a=>exact .inr ⟨ks,a,rfl⟩
theorem Tr.split (k:Nat):∀(ts:Tr true),ts.Fit→k≤(ts.kids 0).length→∃ts1 ks:Tr true,ts.flat 0=ts1.flat 0++ks.flat ts1.cnt∧ts.kids 0=ts1.kids 0++ks.kids ts1.cnt∧(ks.kids ts1.cnt).length=k∧ts.cnt=ts1.cnt+ks.cnt∧ts1.Fit∧ks.Fit:=by
 induction k with
 | zero=>exact λts hf _=>⟨ts,.nil,by simp [Tr.flat],by simp [Tr.kids],rfl,rfl,hf,trivial⟩
 | succ k ih=>
  intro ts hf hk;rcases Tr.snoc_form ts with rfl | ⟨rs,a,rfl⟩
  ·simp [Tr.kids] at hk
  ·simp only [Tr.kids,List.length_append,List.length_singleton] at hk;obtain ⟨ts1,ks,h1,h2,h3,h4,h5,h6⟩:=ih rs hf.1 (by omega);refine ⟨ts1,.snoc ks a,?_,?_,?_,?_,h5,h6,hf.2⟩
   ·simp only [Tr.flat,h1,h4,List.append_assoc,Nat.zero_add]
   ·simp only [Tr.kids,h2,h4,List.append_assoc,Nat.zero_add]
   ·simp only [Tr.kids,List.length_append,h3,List.length_singleton]
   ·simp only [Tr.cnt,h4,Nat.add_assoc]
theorem Rf {n:Ab} (h:Hb n=n.kids.length):(1≤n.kind∧n.kind≤6∧n.kids=[])∨n.kind=7∨(n.kind=8∧n.kids.length=1)∨(9≤n.kind∧n.kind≤19∧n.kids.length=2):=by
 unfold Hb C2 at h;by_cases h1:n.kind<1∨19<n.kind
 ·rw [if_pos h1,if_neg (by decide)] at h;omega
 rw [if_neg h1] at h;by_cases h2:n.kind=7
 ·exact .inr (.inl h2)
 rw [if_neg h2] at h;by_cases h3:n.kind=8
 ·rw [if_pos h3,if_neg (by decide)] at h;exact .inr (.inr (.inl ⟨h3,by omega⟩))
 rw [if_neg h3] at h;by_cases h4:8<n.kind
 ·rw [if_pos h4,if_neg (by decide)] at h;exact .inr (.inr (.inr ⟨by omega,by omega,by omega⟩))
 ·rw [if_neg h4,if_neg (by decide)] at h;exact .inl ⟨by omega,by omega,List.eq_nil_of_length_eq_zero (by omega)⟩
theorem Lz {n:Ab} (hp:A3 n=true) (hk:8≤n.kind):n={kind:=n.kind,kids:=n.kids}:=by
 simp only [A3,Bool.and_eq_true,decide_eq_true_eq] at hp;have hb:AO n=n:=by
  unfold AO;rw [if_neg (by omega),if_neg (by omega),if_neg (by omega),if_neg (by omega),if_neg (by omega),if_neg (by omega)]
 rw [hb] at hp;obtain ⟨_,h1,h2,h3,h4⟩:=hp;cases n;simp_all
theorem QI {n:Ab} (hp:A3 n=true) (hk:n.kind=7):n={kind:=7,text:=n.text,kids:=n.kids}∧Co n.text=true:=by
 simp only [A3,Bool.and_eq_true,decide_eq_true_eq] at hp;have hb:AO n={n with text:=[]}:=by
  unfold AO;rw [if_neg (by omega),if_neg (by omega),if_neg (by omega),if_pos hk]
 have ho:G6 n=Co n.text:=by
  unfold G6;rw [if_neg (by omega),if_neg (by omega),if_neg (by omega),if_pos hk]
 rw [hb,ho] at hp;obtain ⟨h0,h1,h2,h3,h4⟩:=hp;refine ⟨?_,h0⟩;cases n;simp_all
theorem U8 {α:Type} {p:List α→Prop} (h0:p []) (h1:∀l a,p l→p (l++[a])):∀l,p l:=by
 intro l;have:∀(n:Nat) (l:List α),l.length=n→p l:=by
  intro n
  induction n with
  | zero=>intro l hl;rw [List.eq_nil_of_length_eq_zero hl];exact h0
  | succ n ih=>
   intro l hl;have a0:l≠[]:=by intro e;subst e;simp at hl
   rw [←List.dropLast_concat_getLast a0];exact h1 _ _ (ih _ (by simp [hl]))
 exact this _ l rfl
theorem QU:∀(l:List Ab) (st:List Int),AR 0 [] l=some st→∃ts:Tr true,ts.flat 0=l∧ts.kids 0=st∧ts.Fit:=by
 refine U8 ?_ ?_
 ·intro st h;simp only [AR,Option.some.injEq] at h;exact ⟨.nil,rfl,h,trivial⟩
 ·intro l n ih st h;rw [CT] at h
  cases e:AR 0 [] l with
  | none=>rw [e] at h;cases h
  | some s0=>
   rw [e] at h;simp only [Option.bind_some,AR,Nat.zero_add] at h;obtain ⟨ts,hf,hk,a8⟩:=ih s0 e
   cases e2:CP l.length s0 n with
   | none=>rw [e2] at h;cases h
   | some s1=>
    rw [e2] at h;simp only [Option.some.injEq] at h;subst h;unfold CP at e2
    split at e2
    ·rename_i hc;simp only [Option.some.injEq] at e2;obtain ⟨c1,c2,c3,c4⟩:=hc;obtain ⟨ts1,ks,a1,a2,a3,a4,a5,a6⟩:=ts.split n.kids.length a8 (by rw [hk];exact c2);have a0:ks.kids ts1.cnt=n.kids:=by
      rw [←c3,←hk,a2];have:(ts1.kids 0++ks.kids ts1.cnt).length - n.kids.length=(ts1.kids 0).length:=by rw [List.length_append,a3];omega
      rw [this,List.drop_left'];rfl
     have a7:s0.take (s0.length - n.kids.length)=ts1.kids 0:=by
      rw [←hk,a2];have:(ts1.kids 0++ks.kids ts1.cnt).length - n.kids.length=(ts1.kids 0).length:=by rw [List.length_append,a3];omega
      rw [this,List.take_left'];rfl
     have a9:l.length=ts1.cnt+ks.cnt:=by rw [←hf,Tr.flat_len,a4]
     have key:∀a:Tr false,a.Fit→a.cnt=ks.cnt+1→a.flat ts1.cnt=ks.flat ts1.cnt++[n]→∃ts:Tr true,ts.flat 0=l++[n]∧ts.kids 0=s1∧ts.Fit:=by
      intro a h1 h2 h3;refine ⟨.snoc ts1 a,?_,?_,a5,h1⟩
      ·simp only [Tr.flat,Nat.zero_add,h3];rw [←List.append_assoc,←a1,hf]
      ·simp only [Tr.kids,Nat.zero_add];rw [←e2,a7,a9,h2];rfl
     rcases Rf c1 with ⟨b1,b2,b3⟩ | b1 | ⟨b1,b2⟩ | ⟨b1,b2,b3⟩
     ·have aa:ks.kids ts1.cnt=[]:=by rw [a0,b3]
      rcases ks.snoc_form with rfl | ⟨rs,a,rfl⟩
      ·exact key (.leaf n) ⟨b1,b2,b3,c4⟩ rfl rfl
      ·simp [Tr.kids] at aa
     ·obtain ⟨d1,d2⟩:=QI c4 b1;refine key (.call n.text ks) ⟨d2,a6⟩ rfl ?_;simp only [Tr.flat,a0];rw [←d1]
     ·rcases ks.snoc_form with rfl | ⟨rs,a,rfl⟩
      ·simp [Tr.kids] at a3;omega
      ·rcases rs.snoc_form with rfl | ⟨rs',a',rfl⟩
       ·refine key (.neg a) a6.2 (by simp [Tr.cnt]) ?_;have hn:=Lz c4 (by omega);rw [←a0,b1] at hn;simp only [Tr.flat,Tr.kids,Tr.cnt,List.nil_append,Nat.add_zero] at hn ⊢;rw [hn]
       ·simp [Tr.kids] at a3;omega
     ·rcases ks.snoc_form with rfl | ⟨rs,b,rfl⟩
      ·simp [Tr.kids] at a3;omega
      ·rcases rs.snoc_form with rfl | ⟨rs',a,rfl⟩
       ·simp [Tr.kids] at a3;omega
       ·rcases rs'.snoc_form with rfl | ⟨rs'',a',rfl⟩
        ·refine key (.two n.kind a b) ⟨b1,b2,a6.1.2,a6.2⟩ (by simp [Tr.cnt]) ?_;have hn:=Lz c4 (by omega);rw [←a0] at hn;simp only [Tr.flat,Tr.kids,Tr.cnt,List.nil_append,Nat.zero_add,Nat.add_zero,List.cons_append] at hn ⊢;rw [←hn]
        ·simp [Tr.kids] at a3;omega
    ·cases e2
theorem Ij {l:List Ab} (h:BI l=true):∃t:Tr false,t.flat 0=l∧t.Fit:=by
 unfold BI at h
 split at h
 ·rename_i st e;obtain ⟨ts,h1,h2,h3⟩:=QU l st e;have h:=of_decide_eq_true h;rcases ts.snoc_form with rfl | ⟨rs,a,rfl⟩
  ·rw [←h2] at h;simp [Tr.kids] at h
  ·rcases rs.snoc_form with rfl | ⟨rs',a',rfl⟩
   ·exact ⟨a,by simpa [Tr.flat,Tr.cnt] using h1,h3.2⟩
   ·rw [←h2] at h;simp [Tr.kids] at h
 ·cases h
def Dp (s:List UInt8):List UInt8:=34::(s.flatMap (λc=>if c=34 then [34,34] else [c])++[34])
def Bi (t:Ak):List UInt8:=if t.kind=1 then Lib.itoa t.num else if t.kind=2 then Dp t.text else if t.kind=4 then Bp t.ref else if t.kind=6 then GM else t.text
def nA (t:Ak):Ak:={t with at_:=0}
def Nj:Ak:=⟨0,[],0,AF,0⟩
def sg (s:List UInt8):Ak:=⟨5,s,0,AF,0⟩
theorem Cx (s:List UInt8):Bi (sg s)=s:=rfl
theorem GE (t:Ak):Bi (nA t)=Bi t:=rfl
inductive Ep:Ak→Prop
 | num {z:Int}:0≤z→z≤9223372036854775807→Ep ⟨1,[],z,AF,0⟩
 | text {s:List UInt8}:KW s=true→Ep ⟨2,s,0,AF,0⟩
 | word {s:List UInt8}:KP s=true→AQ s=false→Ep ⟨3,s,0,AF,0⟩
 | ref {r:Cn}:AV r=true→Ep ⟨4,[],0,r,0⟩
 | sign {s:List UInt8}:s∈AN→Ep (sg s)
 | dead:Ep ⟨6,[],0,AF,0⟩
def Kt (t:Ak) (R:List UInt8):Prop:=
 (t.kind=1→Av (Ae R 0)=false)∧(t.kind=2→Ae R 0≠34)∧(t.kind=3∨t.kind=4→Ik (Ae R 0)=false)∧(t.kind=5→t.text=[60]∨t.text=[62]→Ae R 0≠61∧Ae R 0≠62)
theorem Un {R:List UInt8} (h:Ae R 0≠34):R.head?≠some 34:=by
 cases R with
 | nil=>simp
 | cons c r=>
  simp only [List.head?_cons,ne_eq,Option.some.injEq];rintro rfl;exact h rfl
theorem LX {p:Int→Bool} {R:List UInt8} (h:p (Ae R 0)=false):Al p R=[]:=by
 cases R with
 | nil=>rfl
 | cons c r=>
  have:p (c.toNat:Int)=false:=h;simp [Al,this]
theorem Oj:∀(s R:List UInt8),KW s=true→R.head?≠some 34→AA (s.flatMap (λc=>if c=34 then [34,34] else [c])++34::R)=some (s,(s.flatMap (λc=>if c=34 then [34,34] else [c])).length+1)
 | [],R,_,h=>T6 h
 | c::s,R,hp,h=>by
  have hp':KW s=true:=by
   simp only [KW,decide_eq_true_eq] at hp ⊢;intro j hj;exact hp (j+1) (by simpa using hj)
  have hc:¬c<32:=by
   simp only [KW,decide_eq_true_eq] at hp;have h0:32≤(c.toNat:Int):=hp 0 (by simp);intro hh;have:=UInt8.lt_iff_toNat_lt.1 hh;simp at this;omega
  have ih:=Oj s R hp' h;by_cases a0:c=34
  ·subst a0;simp only [List.flatMap_cons,if_true,List.cons_append,List.nil_append];rw [Qx,ih];simp
  ·simp only [List.flatMap_cons,if_neg a0,List.cons_append,List.nil_append];rw [T3 a0 hc,ih];simp
theorem Rv {s R:List UInt8} (hp:KW s=true) (h:Ae R 0≠34):C5 (Dp s++R)=some (⟨2,s,0,AF,0⟩,(Dp s).length):=by
 have hb:Ae (Dp s++R) 0=34:=rfl;rw [C5,hb,show Av 34=false from rfl,if_neg (by simp),if_pos rfl,Fs];have e:(Dp s++R).drop 1=s.flatMap (λc=>if c=34 then [34,34] else [c])++34::R:=by simp [Dp]
 rw [e,Oj s R hp (Un h)];simp [Dp]
theorem K9 {r:Cn} (h:AV r=true):(∀c∈Bp r,Ik (c.toNat:Int)=true)∧EW (Ae (Bp r) 0)=true:=by
 obtain ⟨hs,c0,c1,r0,r1⟩:=DC h;obtain ⟨hc,a3,_⟩:=Mo c0 c1;obtain ⟨hd,a5,_,_⟩:=G0 (z:=r.row+1) (by omega) (by omega);have a0:∀b c,c∈CN b→c=36:=λb c hm=>by cases b<;>simp [CN] at hm;exact hm
 have wcap:∀z,B5 z=true→EW z=true:=λz hz=>by simp [EW,hz]
 have wld:∀z,Sb z=true→Ik z=true:=λz hz=>by
  simp only [Sb,Jh,Bool.or_eq_true] at hz;simp only [Ik,EW,Bool.or_eq_true];rcases hz with (hz | hz) | hz
  ·exact .inl (.inl (.inl (.inl hz)))
  ·exact .inl (.inl (.inl (.inr hz)))
  ·exact .inl (.inr hz)
 refine ⟨?_,?_⟩
 ·intro c hm;simp only [Bp,List.mem_append] at hm;rcases hm with hm | ((hm | hm) | hm) | hm
  ·by_cases a1:r.sheet=[]
   ·simp [a1] at hm
   ·simp only [a1,if_false,List.mem_append,List.mem_singleton] at hm;rcases hm with hm | hm
    ·obtain ⟨_,_,a4⟩:=Hm (hs.resolve_left a1);obtain ⟨j,hj,rfl⟩:=List.mem_iff_getElem.1 hm;have:=a4 j hj;rw [Di hj] at this;exact wld _ this
    ·subst hm;rfl
  ·rw [a0 _ c hm];rfl
  ·have:=wcap _ (hc c hm);simp [Ik,this]
  ·rw [a0 _ c hm];rfl
  ·have:=hd c hm;simp [Ik,this]
 ·have a2:∀x,EW (Ae (CN r.ac++Fa r.col++x) 0)=true:=λx=>by
   cases ha:r.ac with
   | true=>rfl
   | false=>
    have:CN false++Fa r.col++x=Fa r.col++x:=rfl;rw [this,Bg a3];obtain ⟨c,hm,e⟩:=Et a3;rw [e];exact wcap _ (hc c hm)
  by_cases a1:r.sheet=[]
  ·have:=a2 (CN r.ar++Lib.itoa (r.row+1))
   simpa [Bp,a1] using this
  ·have hn:=hs.resolve_left a1;have hl:Jh (Ae r.sheet 0)=true:=by
    simp only [Dm,Bool.and_eq_true,decide_eq_true_eq] at hn;exact hn.1.2
   have:Ae (Bp r) 0=Ae r.sheet 0:=by
    simp only [Bp,a1,if_false,List.append_assoc];exact Bg (List.length_pos_iff.2 a1)
   rw [this,Vd,hl];rfl
theorem Ip {z:Int} (h:EW z=true):Av z=false∧z≠34∧z≠32∧z≠35∧z≠61∧z≠62:=by
 simp only [EW,B5,Bool.or_eq_true,Bool.and_eq_true,decide_eq_true_eq] at h;refine ⟨?_,by omega,by omega,by omega,by omega,by omega⟩;simp [Av];omega
theorem JP {s:List UInt8} (h:KP s=true):s≠[]∧s.length≤12∧B5 (Ae s 0)=true∧∀c∈s,Ik (c.toNat:Int)=true:=by
 simp only [KP,Bool.and_eq_true,decide_eq_true_eq] at h;obtain ⟨⟨⟨h0,h1⟩,h2⟩,h3⟩:=h;refine ⟨h0,h1,h2,λc hc=>?_⟩;obtain ⟨j,hj,rfl⟩:=List.mem_iff_getElem.1 hc;have:=h3 j hj;rw [Di hj] at this;simp only [US,Bool.or_eq_true] at this;simp only [Ik,EW,Bool.or_eq_true];rcases this with h | h
 ·exact .inl (.inl (.inl (.inl h)))
 ·exact .inl (.inr h)
theorem Jo {z:Int} (h:B5 z=true):EW z=true:=by simp [EW,h]
theorem HZ:∀s∈AN,s≠[]∧Av (Ae s 0)=false∧Ae s 0≠34∧EW (Ae s 0)=false∧Ae s 0≠35∧Ae s 0≠32∧Ik (Ae s 0)=false:=by decide
theorem Vs {s R:List UInt8} (hs:s∈AN) (h:s=[60]∨s=[62]→Ae R 0≠61∧Ae R 0≠62):C5 (s++R)=some (sg s,s.length):=by
 obtain ⟨a0,a1,a2,a3,a4,_,_⟩:=HZ s hs;have hb:Ae (s++R) 0=Ae s 0:=D7 a0 _;have hf:AN.find? (λx=>Lib.hasPrefix (s++R) x)=some s:=by
  rcases TA hs with hl | hp
  ·match s,hl with
   | [c],_=>
    have hn:([c]++R).take 2∉Dn:=by
     cases R with
     | nil=>simp [Dn]
     | cons d r=>
      simp only [List.cons_append,List.nil_append,List.take,Dn,List.mem_cons,List.cons.injEq,and_true,List.not_mem_nil,or_false];rintro (⟨rfl,rfl⟩ | ⟨rfl,rfl⟩ | ⟨rfl,rfl⟩)
      ·exact (h (.inl rfl)).2 rfl
      ·exact (h (.inl rfl)).1 rfl
      ·exact (h (.inr rfl)).1 rfl
    rw [Ot (by simp) hn,hb];have:∀s∈AN,s.length=1→VT (Ae s 0)=true:=by decide
    rw [this [c] hs rfl];rfl
  ·have h2:s.length=2:=by
    have:∀p∈Dn,p.length=2:=by decide
    exact this _ hp
   have ht:(s++R).take 2=s:=by rw [←h2,List.take_left]
   rw [RP (by rw [ht];exact hp),ht]
 rw [C5,hb,a1,if_neg (by simp),if_neg a2,a3,if_neg (by simp),FG,OJ (by rw [hb];exact a4),if_neg (by simp),hf];rfl
theorem Vr {t:Ak} (h:Ep t) {R:List UInt8} (hn:Kt t R):C5 (Bi t++R)=some (t,(Bi t).length):=by
 cases h with
 | @num z h0 h1=>
  show C5 (Lib.itoa z++R)=some (_,(Lib.itoa z).length);have e:((z.toNat:Nat):Int)=z:=by omega
  rw [Fd h0,Uy (u:=z.toNat) (by omega) (.inr (hn.1 rfl)),e]
 | text hp=>exact Rv hp (hn.2.1 rfl)
 | @word s hf ho=>
  obtain ⟨f0,f1,f2,f3⟩:=JP hf;obtain ⟨b0,b1,_⟩:=Ip (Jo f2);have hs:Al Ik (s++R)=s:=by rw [EF Ik s R f3,LX (hn.2.2.1 (.inl rfl)),List.append_nil]
  show C5 (s++R)=some (_,s.length)
  rw [C5,D7 f0,b0,if_neg (by simp),if_neg b1,Jo f2,if_pos rfl,Gm,hs,ho,if_neg (by simp),hf,if_pos rfl]
 | @ref r hm=>
  obtain ⟨g0,g1⟩:=K9 hm;obtain ⟨a0,a1⟩:=RB hm;obtain ⟨b0,b1,_⟩:=Ip g1;have hs:Al Ik (Bp r++R)=Bp r:=by rw [EF Ik _ R g0,LX (hn.2.2.1 (.inr rfl)),List.append_nil]
  show C5 (Bp r++R)=some (_,(Bp r).length)
  rw [C5,D7 (KJ hm),b0,if_neg (by simp),if_neg b1,g1,if_pos rfl,Gm,hs,a0,if_pos rfl,a1]
 | sign hs=>exact Vs hs (hn.2.2.2 rfl)
 | dead=>rfl
theorem IC {t:Ak} (h:Ep t):Bi t≠[]∧Ae (Bi t) 0≠32:=by
 cases h with
 | @num z h0 h1=>
  show Lib.itoa z≠[]∧Ae (Lib.itoa z) 0≠32;rw [Fd h0]
  exact ⟨(JJ _).2.1,(JJ _).2.2⟩
 | text hp=>exact ⟨by simp [Bi,Dp],by show (34:Int)≠32;decide⟩
 | word hf ho=>
  obtain ⟨f0,f1,f2,f3⟩:=JP hf
  exact ⟨f0,(Ip (Jo f2)).2.2.1⟩
 | ref hm=>exact ⟨KJ hm,(Ip (K9 hm).2).2.2.1⟩
 | sign hs=>
  obtain ⟨a0,a1,a2,a3,a4,a5,_⟩:=HZ _ hs
  exact ⟨a0,a5⟩
 | dead=>exact ⟨by simp [Bi,GM],by decide⟩
def Mi:List Ak→Prop
 | []=>True
 | t::r=>Kt t (r.flatMap Bi)∧Mi r
theorem N2:∀(ts:List Ak) (a:Nat),(∀t∈ts,Ep t)→Mi ts→∃T,EQ (ts.flatMap Bi) a=some T∧T.map nA=ts++[Nj]
 | [],a,_,_=>⟨_,Ff rfl,rfl⟩
 | t::r,a,hc,hl=>by
  have ht:=hc t (by simp);obtain ⟨T,h1,h2⟩:=N2 r (a+(Bi t).length) (λx hx=>hc x (by simp [hx])) hl.2;obtain ⟨n0,n1⟩:=IC ht;rw [List.flatMap_cons,Rj n0 n1 (Vr ht hl.1),h1];refine ⟨_,rfl,?_⟩;simp only [List.map_cons,h2,List.cons_append,List.cons.injEq,and_true];cases ht<;>rfl
theorem S7:∀(n:Nat) (l:List UInt8),l.length≤n→(∀c∈l,Av (c.toNat:Int)=true)→l≠[]→(Ae l 0≠48∨l.length=1)→(Lib.itoa (B9 0 l)).length≤l.length
 | n,l,hn,hd,hne,h0=>by
  have hb:=G5 l (λj hj=>by
   have:=hd _ (List.getElem_mem hj)
   simpa [Di hj] using this)
  rw [Fd hb.1];obtain ⟨r,c,rfl⟩:∃r c,l=r++[c]:=⟨l.dropLast,l.getLast hne,(List.dropLast_concat_getLast hne).symm⟩;have hc:=hd c (by simp);simp only [Av,Bool.and_eq_true,decide_eq_true_eq] at hc
  cases r with
  | nil=>
   have e:B9 0 ([]++[c])=(c.toNat:Int) - 48:=by
    rw [G4];have:B9 0 []=0:=rfl;omega
   rw [e,BV (by omega)]
   simp
  | cons d r=>
   have a0:∀x∈d::r,Av (x.toNat:Int)=true:=λx hx=>hd x (List.mem_append_left _ hx);have h1:Ae (d::r) 0≠48:=by
    rcases h0 with h0 | h0
    ·exact h0
    ·simp at h0
   match n with
   | 0=>simp at hn
   | n+1=>
    have ih:=S7 n (d::r) (by simp at hn ⊢;omega) a0 (by simp) (.inl h1);have a1:=G5 (d::r) (λj hj=>by
     have:=a0 _ (List.getElem_mem hj)
     simpa [Di hj] using this)
    rw [Fd a1.1] at ih;have a2:∀x∈d::r,48≤x.toNat:=λx hx=>by
     have:=a0 x hx;simp only [Av,Bool.and_eq_true,decide_eq_true_eq] at this;omega
    have a3:B9 0 (d::r)≠0:=λhz=>by
     obtain ⟨_,h2⟩:=FD (d::r) 0 (by omega) a2 hz;have:=h2 d (by simp);exact h1 (by show (d.toNat:Int)=48;omega)
    have hx:=G4 0 (d::r) c;have e1:10≤(B9 0 (d::r++[c])).toNat:=by omega
    have e2:(B9 0 (d::r++[c])).toNat / 10=(B9 0 (d::r)).toNat:=by omega
    rw [Dk e1,e2];simp only [List.length_append,List.length_singleton];omega
theorem Mq:∀(n:Nat) (l:List UInt8) (x:List UInt8×Nat),l.length≤n→AA l=some x→(x.1.flatMap (λc=>if c=(34:UInt8) then [34,34] else [c])).length+1≤x.2
 | n,[],x,hn,h=>by simp [AA] at h
 | 0,c::l,x,hn,h=>by simp at hn
 | n+1,c::l,x,hn,h=>by
  simp only [List.length_cons] at hn;by_cases h1:c=34
  ·subst h1;by_cases hq:l.head?=some 34
   ·cases l with
    | nil=>cases hq
    | cons d r=>
     simp only [List.head?_cons,Option.some.injEq] at hq;subst hq;rw [Qx] at h
     cases e:AA r with
     | none=>rw [e] at h;cases h
     | some y=>
      rw [e] at h;simp only [Option.map_some,Option.some.injEq] at h;have:=Mq n r y (by simp at hn;omega) e;subst h;simp only [List.flatMap_cons,if_true,List.length_append,List.length_cons,List.length_nil];omega
   ·rw [T6 hq] at h;simp only [Option.some.injEq] at h;subst h;simp
  ·by_cases h2:c<32
   ·rw [RJ h1 h2] at h;cases h
   ·rw [T3 h1 h2] at h
    cases e:AA l with
    | none=>rw [e] at h;cases h
    | some y=>
     rw [e] at h;simp only [Option.map_some,Option.some.injEq] at h;have:=Mq n l y (by omega) e;subst h;simp only [List.flatMap_cons,if_neg h1,List.length_append,List.length_cons,List.length_nil];omega
theorem Tk {l:List UInt8} {t:Ak} {k:Nat} (h:C5 l=some (t,k)):Ep t∧(Bi t).length≤k:=by
 unfold C5 at h
 split at h
 ·rename_i h0;have a0:Al Av l≠[]:=by
   have:=(Ih (p:=Av) (l:=l) (by
    cases l with
    | nil=>cases h0
    | cons a b=>simp) h0).1
   exact List.length_pos_iff.1 this
  rw [M4 a0] at h
  split at h
  ·rename_i hc;simp only [Option.some.injEq,Prod.mk.injEq] at h;obtain ⟨rfl,rfl⟩:=h;have hb:=G5 (Al Av l) (λj hj=>by
    have hh:=Gk Av l _ (List.getElem_mem hj)
    simpa [Di hj] using hh)
   refine ⟨.num hb.1 hc.1,?_⟩;exact S7 _ _ (Nat.le_refl _) (Gk Av l) a0 hc.2
  ·cases h
 ·split at h
  ·unfold Fs at h
   cases e:AA (l.drop 1) with
   | none=>rw [e] at h;cases h
   | some x=>
    rw [e] at h;simp only [Option.map_some,Option.some.injEq,Prod.mk.injEq] at h;obtain ⟨rfl,rfl⟩:=h;have h1:=Jv _ e;have h2:=Mq _ _ x (Nat.le_refl _) e;refine ⟨.text h1.1,?_⟩;show (Dp x.1).length≤_;simp only [Dp,List.length_cons,List.length_append,List.length_nil];omega
  ·split at h
   ·unfold Gm at h;simp only at h
    split at h
    ·rename_i hr;simp only [Option.some.injEq,Prod.mk.injEq] at h;obtain ⟨rfl,rfl⟩:=h;obtain ⟨h1,h2⟩:=U6 hr;refine ⟨.ref h1,?_⟩;show (Bp _).length≤_;rw [h2];exact Nat.le_refl _
    ·rename_i hr
     split at h
     ·rename_i hf;simp only [Option.some.injEq,Prod.mk.injEq] at h;obtain ⟨rfl,rfl⟩:=h;exact ⟨.word hf (by simpa using hr),Nat.le_refl _⟩
     ·cases h
   ·unfold FG at h
    split at h
    ·simp only [Option.some.injEq,Prod.mk.injEq] at h;obtain ⟨rfl,rfl⟩:=h;exact ⟨.dead,Nat.le_refl _⟩
    ·cases e:AN.find? λs=>Lib.hasPrefix l s with
     | none=>rw [e] at h;cases h
     | some x=>
      rw [e] at h;simp only [Option.map_some,Option.some.injEq,Prod.mk.injEq] at h;obtain ⟨rfl,rfl⟩:=h;exact ⟨.sign (List.mem_of_find?_eq_some e),Nat.le_refl _⟩
theorem N0:∀(n:Nat) (l:List UInt8) (a:Nat) {out:List Ak},l.length≤n→EQ l a=some out→(∀t∈out,nA t=Nj∨Ep (nA t))∧(out.flatMap Bi).length≤l.length
 | n,l,a,out,hn,h=>by
  cases e:l.drop (Al Hv l).length with
  | nil=>
   rw [Ff e] at h;simp only [Option.some.injEq] at h;subst h;refine ⟨λt ht=>?_,by simp [Bi]⟩;rw [List.mem_singleton.1 ht]
   exact .inl rfl
  | cons c r=>
   have hl':=congrArg List.length e;simp at hl'
   cases ho:C5 (c::r) with
   | none=>rw [FV e (by simp) ho] at h;cases h
   | some x=>
    obtain ⟨t,k⟩:=x;have hk:=Fh (by simp) ho;have hk2:=Ql ho;have hok:=Tk ho;rw [G1 e (by simp) ho hk] at h
    cases hr:EQ ((c::r).drop k) (a+(Al Hv l).length+k) with
    | none=>rw [hr] at h;cases h
    | some y=>
     rw [hr] at h;simp only [Option.map_some,Option.some.injEq] at h;subst h
     match n with
     | 0=>omega
     | n+1=>
      have hd:((c::r).drop k).length=r.length+1 - k:=by simp
      have ih:=N0 n ((c::r).drop k) _ (by rw [hd];omega) hr;rw [hd] at ih;have a0:k≤r.length+1:=hk2;refine ⟨λt' ht=>?_,?_⟩
      ·rcases List.mem_cons.1 ht with rfl | ht
       ·refine .inr ?_;have:nA {t with at_:=((a+(Al Hv l).length:Nat):Int)}=t:=by
         cases hok.1<;>rfl
        rw [this];exact hok.1
       ·exact ih.1 t' ht
      ·rw [List.flatMap_cons,List.length_append];have:Bi {t with at_:=((a+(Al Hv l).length:Nat):Int)}=Bi t:=rfl;rw [this];have:=hok.2;have:=ih.2;omega
def Cq (k:Int):Nat:=if k=8 then 5 else if 9≤k∧k≤14 then 1 else if k=15 then 2 else if k=16∨k=17 then 3 else if k=18∨k=19 then 4 else 6
def Tr.rank:{b:Bool}→Tr b→Nat
 | _,.neg _=>5
 | _,.two k _ _=>Cq k
 | _,_=>6
def E4 (k:Int):List UInt8:=HP.getD (k - 9).toNat []
def BH (n:Ab):List Ak:=
 if n.kind=1 then [⟨1,[],n.num,AF,0⟩]
 else if n.kind=2 then [⟨2,n.text,0,AF,0⟩]
 else if n.kind=3 then [⟨3,if n.num=1 then Db else C3,0,AF,0⟩]
 else if n.kind=4 then [⟨6,[],0,AF,0⟩]
 else if n.kind=5 then [⟨4,[],0,n.ref,0⟩]
 else [⟨4,[],0,n.ref,0⟩,sg [58],⟨4,[],0,n.to,0⟩]
def brk (b:Bool) (l:List Ak):List Ak:=if b then sg [40]::(l++[sg [41]]) else l
def Tr.toks:{b:Bool}→Tr b→List Ak
 | _,.leaf n=>BH n
 | _,.neg a=>sg [45]::brk (decide (a.rank<5)) a.toks
 | _,.two k a b=>brk (decide (a.rank<Cq k)) a.toks++sg (E4 k)::brk (decide (b.rank<Cq k+1)) b.toks
 | _,.call x .nil=>[⟨3,x,0,AF,0⟩,sg [40],sg [41]]
 | _,.call x (.snoc rs a)=>⟨3,x,0,AF,0⟩::sg [40]::(rs.toks++(a.toks++[sg [41]]))
 | _,.nil=>[]
 | _,.snoc ks a=>ks.toks++(a.toks++[sg [44]])
def Tr.text {b:Bool} (t:Tr b):List UInt8:=t.toks.flatMap Bi
def Tr.opt (n:Nat) (t:Tr false):List Ak:=brk (decide (t.rank<n)) t.toks
def Tr.Num {b:Bool} (t:Tr b):Prop:=∀k∈t.toks,k.num≤9223372036854775807
theorem RM:∀o,o<11→HP.getD o []∈AN:=by decide
theorem GC {k:Int} (h0:9≤k) (h1:k≤19):E4 k∈AN:=RM _ (by omega)
theorem Eb {b:Bool} {l:List Ak} {t:Ak} (h:t∈brk b l):t∈l∨t=sg [40]∨t=sg [41]:=by
 unfold brk at h
 split at h
 ·simp only [List.mem_cons,List.mem_append,List.not_mem_nil,or_false] at h;rcases h with h | h | h
  ·exact .inr (.inl h)
  ·exact .inl h
  ·exact .inr (.inr h)
 ·exact .inl h
theorem Bv {b:Bool} {l:List Ak} {t:Ak} (h:t∈l):t∈brk b l:=by
 unfold brk
 split
 ·simp [h]
 ·exact h
theorem DP {n:Ab} (h:A3 n=true):G6 n=true:=by
 simp only [A3,Bool.and_eq_true] at h;exact h.1
theorem ST {n:Ab} (h0:1≤n.kind) (h1:n.kind≤6) (hp:A3 n=true) (hn:∀k∈BH n,k.num≤9223372036854775807):∀t∈BH n,Ep t:=by
 have ho:=DP hp;intro t ht;have a0:Ep (sg [58]):=.sign (by decide);have:n.kind=1∨n.kind=2∨n.kind=3∨n.kind=4∨n.kind=5∨n.kind=6:=by omega
 rcases this with h | h | h | h | h | h<;>simp only [BH,G6,h,if_true,if_false,Int.reduceEq,List.mem_cons,List.not_mem_nil,or_false,Bool.and_eq_true,decide_eq_true_eq] at ht ho hn
 ·subst ht;exact .num ho (hn _ rfl)
 ·subst ht;exact .text ho
 ·subst ht
  split
  ·exact .word (by decide) (by decide +kernel)
  ·exact .word (by decide) (by decide +kernel)
 ·subst ht;exact .dead
 ·subst ht;exact .ref ho
 ·rcases ht with rfl | rfl | rfl
  ·exact .ref ho.1
  ·exact a0
  ·exact .ref ho.2.1
theorem HO {x:List UInt8} (h:Co x=true):Ep ⟨3,x,0,AF,0⟩:=by
 simp only [Co,Bool.and_eq_true,Bool.not_eq_true'] at h;exact .word h.1.1.1 h.1.1.2
theorem Tr.can:∀{b:Bool} (t:Tr b),t.Fit→t.Num→∀k∈t.toks,Ep k
 | _,.leaf n,hf,hn,k,hk=>ST hf.1 hf.2.1 hf.2.2.2 hn k hk
 | _,.neg a,hf,hn,k,hk=>by
  have ha:=can a hf (λu hu=>hn u (by simp only [Tr.toks];exact List.mem_cons_of_mem _ (Bv hu)));simp only [Tr.toks,List.mem_cons] at hk;rcases hk with rfl | hk
  ·exact .sign (by decide)
  ·rcases Eb hk with hk | rfl | rfl
   ·exact ha k hk
   ·exact .sign (by decide)
   ·exact .sign (by decide)
 | _,.two o a b,hf,hn,k,hk=>by
  have ha:=can a hf.2.2.1 (λu hu=>hn u (by simp only [Tr.toks];exact List.mem_append_left _ (Bv hu)));have hb:=can b hf.2.2.2 (λu hu=>hn u (by simp only [Tr.toks];exact List.mem_append_right _ (List.mem_cons_of_mem _ (Bv hu))));simp only [Tr.toks,List.mem_append,List.mem_cons] at hk;rcases hk with hk | rfl | hk
  ·rcases Eb hk with hk | rfl | rfl
   ·exact ha k hk
   ·exact .sign (by decide)
   ·exact .sign (by decide)
  ·exact .sign (GC hf.1 hf.2.1)
  ·rcases Eb hk with hk | rfl | rfl
   ·exact hb k hk
   ·exact .sign (by decide)
   ·exact .sign (by decide)
 | _,.call x .nil,hf,hn,k,hk=>by
  simp only [Tr.toks,List.mem_cons,List.not_mem_nil,or_false] at hk;rcases hk with rfl | rfl | rfl
  ·exact HO hf.1
  ·exact .sign (by decide)
  ·exact .sign (by decide)
 | _,.call x (.snoc rs a),hf,hn,k,hk=>by
  have hr:=can rs hf.2.1 (λu hu=>hn u (by simp only [Tr.toks];simp [hu]));have ha:=can a hf.2.2 (λu hu=>hn u (by simp only [Tr.toks];simp [hu]));simp only [Tr.toks,List.mem_cons,List.mem_append,List.not_mem_nil,or_false] at hk;rcases hk with rfl | rfl | hk | hk | rfl
  ·exact HO hf.1
  ·exact .sign (by decide)
  ·exact hr k hk
  ·exact ha k hk
  ·exact .sign (by decide)
 | _,.nil,_,_,k,hk=>by cases hk
 | _,.snoc rs a,hf,hn,k,hk=>by
  have hr:=can rs hf.1 (λu hu=>hn u (by simp only [Tr.toks];simp [hu]));have ha:=can a hf.2 (λu hu=>hn u (by simp only [Tr.toks];simp [hu]));simp only [Tr.toks,List.mem_append,List.mem_cons,List.not_mem_nil,or_false] at hk;rcases hk with hk | hk | rfl
  ·exact hr k hk
  ·exact ha k hk
  ·exact .sign (by decide)
def BJ (l:List Ak):Prop:=l.flatMap Bi≠[]∧Ae (l.flatMap Bi) 0≠61∧Ae (l.flatMap Bi) 0≠62
theorem BJ.app {l:List Ak} (h:BJ l) (m:List Ak):BJ (l++m):=by
 unfold BJ at h ⊢;rw [List.flatMap_append,D7 h.1];exact ⟨by simp [h.1],h.2⟩
theorem BJ.cons {t:Ak} (h:Bi t≠[]) (h1:Ae (Bi t) 0≠61) (h2:Ae (Bi t) 0≠62) (m:List Ak):BJ (t::m):=by
 unfold BJ;rw [List.flatMap_cons,D7 h];exact ⟨by simp [h],h1,h2⟩
theorem BJ.brk {l:List Ak} (h:BJ l) (b:Bool):BJ (Go.Proofs.YtefaigjfkddelaaGreatDoor.brk b l):=by
 unfold Go.Proofs.YtefaigjfkddelaaGreatDoor.brk
 split
 ·exact BJ.cons (by simp [Cx]) (by rw [Cx];decide) (by rw [Cx];decide) _
 ·exact h
theorem JF {t:Ak} (h:Ep t) (hk:t.kind≠5) (m:List Ak):BJ (t::m):=by
 have h0:=(IC h).1
 cases h with
 | @num z a0 h1=>
  refine BJ.cons h0 ?_ ?_ m<;>
  ·show Ae (Lib.itoa z) 0≠_;rw [Fd a0];have:=(JJ z.toNat).1;simp only [Av,Bool.and_eq_true,decide_eq_true_eq] at this
   omega
 | text hp=>exact BJ.cons h0 (by show (34:Int)≠61;decide) (by show (34:Int)≠62;decide) m
 | word hf ho=>
  have:=Ip (Jo (JP hf).2.2.1)
  exact BJ.cons h0 this.2.2.2.2.1 this.2.2.2.2.2 m
 | ref hm=>
  have:=Ip (K9 hm).2
  exact BJ.cons h0 this.2.2.2.2.1 this.2.2.2.2.2 m
 | sign hs=>exact absurd rfl hk
 | dead=>exact BJ.cons h0 (by decide) (by decide) m
theorem Fe {n:Ab} (h0:1≤n.kind) (h1:n.kind≤6):∃t m,BH n=t::m∧t.kind≠5∧(m=[]∨∃u,m=[sg [58],u]∧u.kind=4∧t.kind=4):=by
 have:n.kind=1∨n.kind=2∨n.kind=3∨n.kind=4∨n.kind=5∨n.kind=6:=by omega
 rcases this with h | h | h | h | h | h<;>simp only [BH,h,if_true,if_false,Int.reduceEq]
 ·exact ⟨_,_,rfl,by simp,.inl rfl⟩
 ·exact ⟨_,_,rfl,by simp,.inl rfl⟩
 ·exact ⟨_,_,rfl,by simp,.inl rfl⟩
 ·exact ⟨_,_,rfl,by simp,.inl rfl⟩
 ·exact ⟨_,_,rfl,by simp,.inl rfl⟩
 ·exact ⟨_,_,rfl,by simp,.inr ⟨_,rfl,rfl,rfl⟩⟩
theorem Tr.head:∀(t:Tr false),t.Fit→t.Num→BJ t.toks
 | .leaf n,hf,hn=>by
  obtain ⟨t,m,e,hk,_⟩:=Fe hf.1 hf.2.1;have hc:=(Tr.leaf n).can hf hn t (by show t∈BH n;rw [e];simp);show BJ (BH n);rw [e]
  exact JF hc hk m
 | .neg a,_,_=>BJ.cons (by simp [Cx]) (by rw [Cx];decide) (by rw [Cx];decide) _
 | .two o a b,hf,hn=>by
  have ha:=head a hf.2.2.1 (λu hu=>hn u (by simp only [Tr.toks];exact List.mem_append_left _ (Bv hu)))
  exact (ha.brk _).app _
 | .call x .nil,hf,_=>JF (HO hf.1) (by simp) _
 | .call x (.snoc rs a),hf,_=>JF (HO hf.1) (by simp) _
def Q8 (R:List UInt8):Prop:=Av (Ae R 0)=false∧Ae R 0≠34∧Ik (Ae R 0)=false
theorem FA {s:List UInt8} (h:s∈AN) (B:List Ak):Q8 ((sg s::B).flatMap Bi):=by
 obtain ⟨a0,a1,a2,a3,a4,a5,a6⟩:=HZ s h;rw [List.flatMap_cons,Cx];unfold Q8;rw [D7 a0];exact ⟨a1,a2,a6⟩
theorem Fo {t:Ak} (hk:t.kind≠5) {R:List UInt8} (h:Q8 R):Kt t R:=⟨λ_=>h.1,λ_=>h.2.1,λ_=>h.2.2,λe=>absurd e hk⟩
theorem Ef {s R:List UInt8} (h1:s≠[60]) (h2:s≠[62]):Kt (sg s) R:=⟨by simp [sg],by simp [sg],by simp [sg],λ_ e=>by rcases e with e | e<;>contradiction⟩
theorem QY {s:List UInt8} {B:List Ak} (h:BJ B):Kt (sg s) (B.flatMap Bi):=⟨by simp [sg],by simp [sg],by simp [sg],λ_ _=>h.2⟩
theorem Ki {l:List Ak} (hl:∀B:List Ak,Q8 (B.flatMap Bi)→Mi B→Mi (l++B)) (b:Bool):∀B:List Ak,Q8 (B.flatMap Bi)→Mi B→Mi (brk b l++B):=by
 intro B hs hB;unfold brk
 split
 ·simp only [List.cons_append,List.append_assoc,List.nil_append];exact ⟨Ef (by decide) (by decide),hl _ (FA (by decide) B) ⟨Ef (by decide) (by decide),hB⟩⟩
 ·exact hl B hs hB
theorem Tr.link:∀{b:Bool} (t:Tr b),t.Fit→t.Num→∀B:List Ak,(b=true∨Q8 (B.flatMap Bi))→Mi B→Mi (t.toks++B)
 | _,.leaf n,hf,hn,B,hs,hB=>by
  have hs:=hs.resolve_left (by simp);obtain ⟨t,m,e,hk,hm⟩:=Fe hf.1 hf.2.1;show Mi (BH n++B);rw [e];rcases hm with rfl | ⟨u,rfl,hu,_⟩
  ·exact ⟨Fo hk hs,hB⟩
  ·exact ⟨Fo hk (FA (by decide) _),Ef (by decide) (by decide),Fo (by omega) hs,hB⟩
 | _,.neg a,hf,hn,B,hs,hB=>by
  have hs:=hs.resolve_left (by simp);have ha:=link a hf (λu hu=>hn u (by simp only [Tr.toks];exact List.mem_cons_of_mem _ (Bv hu)))
  exact ⟨Ef (by decide) (by decide),Ki (λB h1 h2=>ha B (.inr h1) h2) _ B hs hB⟩
 | _,.two o a b,hf,hn,B,hs,hB=>by
  have hs:=hs.resolve_left (by simp);have hna:a.Num:=λu hu=>hn u (by simp only [Tr.toks];exact List.mem_append_left _ (Bv hu));have hnb:b.Num:=λu hu=>hn u (by simp only [Tr.toks];exact List.mem_append_right _ (List.mem_cons_of_mem _ (Bv hu)));have ha:=link a hf.2.2.1 hna;have hb:=link b hf.2.2.2 hnb;have hm:=GC hf.1 hf.2.1;simp only [Tr.toks,List.append_assoc,List.cons_append]
  exact Ki (λB h1 h2=>ha B (.inr h1) h2) _ _ (FA hm _) ⟨QY (((b.head hf.2.2.2 hnb).brk _).app _),Ki (λB h1 h2=>hb B (.inr h1) h2) _ B hs hB⟩
 | _,.call x .nil,hf,hn,B,hs,hB=>⟨Fo (by simp) (FA (by decide) _),Ef (by decide) (by decide),Ef (by decide) (by decide),hB⟩
 | _,.call x (.snoc rs a),hf,hn,B,hs,hB=>by
  have hr:=link rs hf.2.1 (λu hu=>hn u (by simp only [Tr.toks];simp [hu]));have ha:=link a hf.2.2 (λu hu=>hn u (by simp only [Tr.toks];simp [hu]));simp only [Tr.toks,List.append_assoc,List.cons_append,List.nil_append]
  exact ⟨Fo (by simp) (FA (by decide) _),Ef (by decide) (by decide),hr _ (.inl rfl) (ha _ (.inr (FA (by decide) _)) ⟨Ef (by decide) (by decide),hB⟩)⟩
 | _,.nil,_,_,B,_,hB=>hB
 | _,.snoc rs a,hf,hn,B,_,hB=>by
  have hr:=link rs hf.1 (λu hu=>hn u (by simp only [Tr.toks];simp [hu]));have ha:=link a hf.2 (λu hu=>hn u (by simp only [Tr.toks];simp [hu]));simp only [Tr.toks,List.append_assoc,List.cons_append,List.nil_append];exact hr _ (.inl rfl) (ha _ (.inr (FA (by decide) _)) ⟨Ef (by decide) (by decide),hB⟩)
theorem Tr.lex (t:Tr false) (hf:t.Fit) (hn:t.Num):∃T,He t.text=some T∧T.map nA=t.toks++[Nj]:=by
 have:=t.link hf hn [] (.inr ⟨rfl,by decide,rfl⟩) trivial;rw [List.append_nil] at this;exact N2 _ 0 (t.can hf hn) this
def G8 (least r need:Nat):Nat:=if r<least then need+1 else need
def Tr.need:{b:Bool}→Tr b→Nat
 | _,.leaf _=>0
 | _,.neg a=>G8 5 a.rank a.need+1
 | _,.two k a b=>max (G8 (Cq k) a.rank a.need) (G8 (Cq k+1) b.rank b.need)
 | _,.call _ ks=>ks.need+1
 | _,.nil=>0
 | _,.snoc ks a=>max ks.need a.need
def NB (n:Nat):E7:=if n<4 then .lev n else if n=4 then .unary else .prim
theorem PD {n:Nat} (h:n<4):below n=NB (n+1):=by
 unfold below NB;by_cases h3:n<3
 ·rw [if_pos h3,if_pos (by omega)]
 ·rw [if_neg h3,if_neg (by omega),if_pos (by omega)]
def Left (T:List Ak) (s:Bw):List Ak:=(T.drop s.at_).map nA
theorem C9 {T:List Ak} {s:Bw} {u:Ak} {R:List Ak} (h:Left T s=u::R):(Aa T s).kind=u.kind∧(Aa T s).text=u.text∧(Aa T s).num=u.num∧(Aa T s).ref=u.ref:=by
 unfold Left at h;have:((T.drop s.at_).map nA)[0]?=some u:=by rw [h];rfl
 rw [List.getElem?_map,List.getElem?_drop,Nat.add_zero] at this
 cases e:T[s.at_]? with
 | none=>rw [e] at this;cases this
 | some t=>
  rw [e] at this;simp only [Option.map_some,Option.some.injEq] at this;have et:Aa T s=t:=by simp [Aa,List.getD_eq_getElem?_getD,e]
  rw [et,←this];exact ⟨rfl,rfl,rfl,rfl⟩
theorem AP {T:List Ak} {s s':Bw} {w R:List Ak} (h:Left T s=w++R) (hs:s'.at_=s.at_+w.length):Left T s'=R:=by
 unfold Left at h ⊢;rw [hs,←List.drop_drop,List.map_drop,h,List.drop_left]
theorem BW {T:List Ak} {s:Bw} {u:Ak} {R:List Ak} (h:Left T s=u::R) (x:List UInt8):BD T s x=(decide (u.kind=5)&&decide (u.text=x)):=by
 obtain ⟨h1,h2,_⟩:=C9 h;rw [BD,h1,h2]
def VW (n:Nat) (u:Ak):Prop:=u.kind=5→u.text≠[58]∧∀m,n≤m→m<4→(Bo m).findIdx? (λx=>decide (x=u.text))=none
def TT (n:Nat) (R:List Ak):Prop:=∃u B,R=u::B∧VW n u
theorem TT.mono {n m:Nat} {R:List Ak} (h:TT n R) (hm:n≤m):TT m R:=by
 obtain ⟨u,B,e,hs⟩:=h;exact ⟨u,B,e,λh5=>⟨(hs h5).1,λk hk=>(hs h5).2 k (by omega)⟩⟩
theorem Ui (n:Nat):TT n [Nj]:=⟨_,_,rfl,λh=>by cases h⟩
theorem SH (n:Nat) (B:List Ak):TT n (sg [41]::B):=⟨_,_,rfl,λ_=>⟨by decide,λm _ h4=>by
 have:∀m,m<4→(Bo m).findIdx? (λx=>decide (x=[41]))=none:=by decide
 exact this m h4⟩⟩
theorem Vj (n:Nat) (B:List Ak):TT n (sg [44]::B):=⟨_,_,rfl,λ_=>⟨by decide,λm _ h4=>by
 have:∀m,m<4→(Bo m).findIdx? (λx=>decide (x=[44]))=none:=by decide
 exact this m h4⟩⟩
theorem U1 {T:List Ak} {s:Bw} {R:List Ak} {n m:Nat} (h:Left T s=R) (hf:TT n R) (hn:n≤m) (h4:m<4):GH T s m=none:=by
 obtain ⟨u,B,rfl,hs⟩:=hf;obtain ⟨h1,h2,_⟩:=C9 h;unfold GH
 split
 ·rename_i h5;rw [h2];exact (hs (by rw [←h1];exact h5)).2 m hn h4
 ·rfl
theorem Vu:∀o,o<11→HP.getD o []≠[58]∧∃n,n<4∧Cq (9+(o:Int))=n+1∧(∃i,(Bo n).findIdx? (λx=>decide (x=HP.getD o []))=some i∧(A6 n).getD i 0=9+(o:Int))∧∀m,m<4→n+1≤m→(Bo m).findIdx? (λx=>decide (x=HP.getD o []))=none:=by
 intro o ho;have:o=0∨o=1∨o=2∨o=3∨o=4∨o=5∨o=6∨o=7∨o=8∨o=9∨o=10:=by omega
 rcases this with rfl | rfl | rfl | rfl | rfl | rfl | rfl | rfl | rfl | rfl | rfl
 ·exact ⟨by decide,0,by decide,rfl,⟨0,rfl,rfl⟩,by decide⟩
 ·exact ⟨by decide,0,by decide,rfl,⟨1,rfl,rfl⟩,by decide⟩
 ·exact ⟨by decide,0,by decide,rfl,⟨2,rfl,rfl⟩,by decide⟩
 ·exact ⟨by decide,0,by decide,rfl,⟨3,rfl,rfl⟩,by decide⟩
 ·exact ⟨by decide,0,by decide,rfl,⟨4,rfl,rfl⟩,by decide⟩
 ·exact ⟨by decide,0,by decide,rfl,⟨5,rfl,rfl⟩,by decide⟩
 ·exact ⟨by decide,1,by decide,rfl,⟨0,rfl,rfl⟩,by decide⟩
 ·exact ⟨by decide,2,by decide,rfl,⟨0,rfl,rfl⟩,by decide⟩
 ·exact ⟨by decide,2,by decide,rfl,⟨1,rfl,rfl⟩,by decide⟩
 ·exact ⟨by decide,3,by decide,rfl,⟨0,rfl,rfl⟩,by decide⟩
 ·exact ⟨by decide,3,by decide,rfl,⟨1,rfl,rfl⟩,by decide⟩
theorem Qp {k:Int} (h0:9≤k) (h1:k≤19):E4 k≠[58]∧∃n,n<4∧Cq k=n+1∧(∃i,(Bo n).findIdx? (λx=>decide (x=E4 k))=some i∧(A6 n).getD i 0=k)∧∀m,m<4→n+1≤m→(Bo m).findIdx? (λx=>decide (x=E4 k))=none:=by
 have:=Vu (k - 9).toNat (by omega);rw [show 9+(((k - 9).toNat:Nat):Int)=k by omega] at this;exact this
def CU {b:Bool} (t:Tr b) (w:List Ak) (s:Bw):Bw:=⟨s.at_+w.length,s.out++t.flat s.out.length,s.deep⟩
def plc (t:Tr false) (s:Bw):Nat:=s.out.length+t.cnt - 1
def Hq (d:Nat) (t:Tr false) (w:List Ak) (s:Bw):FL:=if s.deep+d≤12 then .ok (CU t w s) (plc t s) else .err 6
def UM (t:Tr false) (d:Nat) (w:List Ak) (n:Nat):Prop:=∀(T:List Ak) (s:Bw) (R:List Ak) (r:FL),s.deep≤12→Left T s=w++R→TT (n+1) R→
 (if s.deep+d≤12 then PE T (.loop n (plc t s)) (CU t w s) r else r=.err 6)→PE T (.lev n) s r
def KS (t:Tr false) (d:Nat) (w:List Ak) (n:Nat):Prop:=∀(T:List Ak) (s:Bw) (R:List Ak),s.deep≤12→Left T s=w++R→TT n R→PE T (NB n) s (Hq d t w s)
theorem UM.m {t:Tr false} {d:Nat} {w:List Ak} {n:Nat} (h:UM t d w n) (hn:n<4):KS t d w n:=by
 intro T s R hs hl hf;have e:NB n=.lev n:=by rw [NB,if_pos hn]
 rw [e];refine h T s R _ hs hl (hf.mono (by omega)) ?_;unfold Hq
 split
 ·exact .loop_end (U1 (AP hl rfl) hf (Nat.le_refl n) hn)
 ·rfl
theorem KS.k {t:Tr false} {d:Nat} {w:List Ak} {n:Nat} (h:KS t d w (n+1)) (hn:n<4):UM t d w n:=by
 intro T s R r hs hl hf hr;have hp:=h T s R hs hl hf;rw [←PD hn] at hp;unfold Hq at hp
 split at hp
 ·rename_i hd;rw [if_pos hd] at hr;exact .lev_ok hp hr
 ·rename_i hd;rw [if_neg hd] at hr;subst hr;exact .lev_err hp
theorem KS.down {t:Tr false} {d:Nat} {w:List Ak} (h:KS t d w 5) (hw:∃u v,w=u::v∧¬(u.kind=5∧u.text=[45])):∀k n,n+k=5→KS t d w n:=by
 have hu:KS t d w 4:=by
  intro T s R hs hl hf;obtain ⟨u,v,rfl,hv⟩:=hw;have hp:=h T s R hs hl (hf.mono (by omega));refine .un_prim ?_ hp;rw [BW hl];by_cases h5:u.kind=5
  ·have:¬u.text=[45]:=λe=>hv ⟨h5,e⟩;simp [this]
  ·simp [h5]
 intro k
 induction k with
 | zero=>intro n hn;rw [show n=5 by omega];exact h
 | succ k ih=>
  intro n hn;by_cases h4:n=4
  ·rw [h4];exact hu
  ·exact (KS.k (ih (n+1) (by omega)) (by omega)).m (by omega)
theorem PG {t:Tr false} (h:KS t t.need t.toks 0):KS t (t.need+1) (sg [40]::(t.toks++[sg [41]])) 5:=by
 intro T s R hs hl hf;have hl:Left T s=sg [40]::(t.toks++(sg [41]::R)):=by rw [hl];simp
 have hi:BD T s [40]=true:=by rw [BW hl];rfl
 show PE T .prim s _;by_cases hd:s.deep<12
 ·have a0:Left T (Aq (An s))=t.toks++(sg [41]::R):=AP (w:=[sg [40]]) hl rfl;have hp:=h T (Aq (An s)) (sg [41]::R) (by show s.deep+1≤12;omega) a0 (SH 0 R);unfold Hq at hp ⊢;have a1:(Aq (An s)).deep=s.deep+1:=rfl;rw [a1] at hp;by_cases hh:s.deep+1+t.need≤12
  ·rw [if_pos hh] at hp;rw [if_pos (by omega)];have a2:Left T (CU t t.toks (Aq (An s)))=sg [41]::R:=AP a0 rfl;have a3:BD T (CU t t.toks (Aq (An s))) [41]=true:=by rw [BW a2];rfl
   have:=PE.pr_ok hi hd hp a3;have e:BP (An (CU t t.toks (Aq (An s))))=CU t (sg [40]::(t.toks++[sg [41]])) s:=by
    simp only [BP,An,CU,Aq,Bw.mk.injEq,List.length_cons,List.length_append,List.length_nil];exact ⟨by omega,trivial,by omega⟩
   rw [e] at this;exact this
  ·rw [if_neg hh] at hp;rw [if_neg (by omega)];exact .pr_err hi hd hp
 ·unfold Hq;rw [if_neg (by omega)];exact .pr_deep hi (by omega)
theorem Qq {t:Tr false} (h0:KS t t.need t.toks 0) (hm:∀n,n+1≤t.rank→KS t t.need t.toks n) {n:Nat} (hn:n≤5):KS t (G8 (n+1) t.rank t.need) (brk (decide (t.rank<n+1)) t.toks) n:=by
 unfold G8 brk;by_cases hr:t.rank<n+1
 ·rw [if_pos hr,if_pos (by simpa using hr)];exact (PG h0).down ⟨_,_,rfl,by rintro ⟨_,e⟩;cases e⟩ (5 - n) n (by omega)
 ·rw [if_neg hr,if_neg (by simpa using hr)];exact hm n (by omega)
theorem Tn {t:Tr false} (h0:KS t t.need t.toks 0) (hk:∀n,n<4→n+1≤t.rank→UM t t.need t.toks n) {n:Nat} (hn:n<4):UM t (G8 (n+1) t.rank t.need) (brk (decide (t.rank<n+1)) t.toks) n:=by
 unfold G8 brk;by_cases hr:t.rank<n+1
 ·rw [if_pos hr,if_pos (by simpa using hr)];exact ((PG h0).down ⟨_,_,rfl,by rintro ⟨_,e⟩;cases e⟩ (5 - (n+1)) (n+1) (by omega)).k hn
 ·rw [if_neg hr,if_neg (by simpa using hr)];exact hk n hn (by omega)
theorem Ty {k:Int} (h0:9≤k) (h1:k≤19):1≤Cq k∧Cq k≤4:=by
 obtain ⟨_,n,hn,e,_⟩:=Qp h0 h1;omega
theorem Tr.rank_le:∀(t:Tr false),t.Fit→1≤t.rank∧t.rank≤6
 | .leaf _,_=>by simp [Tr.rank]
 | .neg _,_=>by simp [Tr.rank]
 | .two k _ _,h=>by have:=Ty h.1 h.2.1;simp only [Tr.rank];omega
 | .call _ _,_=>by simp [Tr.rank]
theorem Ut {n:Ab} (h0:1≤n.kind) (h1:n.kind≤6) (hk:n.kids=[]) (hp:A3 n=true):KS (.leaf n) 0 (BH n) 5:=by
 intro T s R hs hl hf;show PE T .prim s _;unfold Hq;rw [if_pos (by omega)];have ho:=DP hp;have a2:plc (.leaf n) s=s.out.length:=by simp [plc,Tr.cnt]
 rw [a2];have hb:=hp;simp only [A3,Bool.and_eq_true,decide_eq_true_eq] at hb;have a0:∀w:List Ak,CU (.leaf n) w s=Bq ⟨s.at_+w.length,s.out,s.deep⟩ n:=λw=>by simp [CU,Bq,Tr.flat]
 rw [a0];have:n.kind=1∨n.kind=2∨n.kind=3∨n.kind=4∨n.kind=5∨n.kind=6:=by omega
 rcases this with h | h | h | h | h | h<;>simp only [BH,G6,AO,h,if_true,if_false,Int.reduceEq,Bool.and_eq_true,decide_eq_true_eq,Bool.or_eq_true,true_and,and_true,List.cons_append,List.nil_append] at hl ho hb ⊢
 ·obtain ⟨t1,t2,t3,t4⟩:=C9 hl;have e:n={kind:=1,num:=(Aa T s).num}:=by cases n;simp_all
  rw [e];exact .pr_num t1
 ·obtain ⟨t1,t2,t3,t4⟩:=C9 hl;have e:n={kind:=2,text:=(Aa T s).text}:=by cases n;simp_all
  rw [e];exact .pr_text t1
 ·obtain ⟨t1,t2,t3,t4⟩:=C9 hl;rcases ho with ho | ho
  ·rw [if_neg (by omega)] at t2;have e:n={kind:=3}:=by cases n;simp_all
   rw [e];exact .pr_false t1 t2
  ·rw [if_pos ho] at t2;have e:n={kind:=3,num:=1}:=by cases n;simp_all
   rw [e];exact .pr_true t1 t2
 ·obtain ⟨t1,t2,t3,t4⟩:=C9 hl;have e:n={kind:=4}:=by cases n;simp_all
  rw [e];exact .pr_dead t1
 ·obtain ⟨t1,t2,t3,t4⟩:=C9 hl;have e:n={kind:=5,ref:=(Aa T s).ref}:=by cases n;simp_all
  rw [e];refine .pr_ref t1 ?_;obtain ⟨u,B,rfl,hu⟩:=hf;have a1:Left T (An s)=u::B:=AP (w:=[_]) hl rfl;rw [BW a1];by_cases h5:u.kind=5
  ·simp [(hu h5).1]
  ·simp [h5]
 ·obtain ⟨t1,t2,t3,t4⟩:=C9 hl;have a1:Left T (An s)=sg [58]::⟨4,[],0,n.to,0⟩::R:=AP (w:=[_]) hl rfl;have a3:Left T (An (An s))=⟨4,[],0,n.to,0⟩::R:=AP (w:=[_]) a1 rfl;obtain ⟨q1,q2,q3,q4⟩:=C9 a3;have e:n={kind:=6,ref:=(Aa T s).ref,to:=(Aa T (An (An s))).ref}:=by cases n;simp_all
  have hr:Bk (Aa T s).ref (Aa T (An (An s))).ref=true:=by rw [t4,q4];exact ho.2.2
  have hi:BD T (An s) [58]=true:=by rw [BW a1];rfl
  rw [e];exact .pr_range t1 hi q1 hr
def Wd (ks:Tr true):Prop:=∀(T:List Ak) (s:Bw) (R:List Ak) (x:List UInt8) (k0:List Int) (r:FL),s.deep≤12→Left T s=ks.toks++R→
 (if s.deep+ks.need≤12 then PE T (.args x (k0++ks.kids s.out.length)) (CU ks ks.toks s) r else r=.err 6)→PE T (.args x k0) s r
def UN:{b:Bool}→Tr b→Prop
 | false,t=>(∀n,n+1≤t.rank→KS t t.need t.toks n)∧∀n,n<4→n+1≤t.rank→UM t t.need t.toks n
 | true,ks=>Wd ks
theorem IM {x:List UInt8} (h:Co x=true):x≠Db∧x≠C3:=by
 simp only [Co,Bool.and_eq_true,Bool.not_eq_true',decide_eq_false_iff_not] at h;exact ⟨h.1.2,h.2⟩
theorem OO {t:Tr false} (h5:KS t t.need t.toks 5) (hw:∃u v,t.toks=u::v∧¬(u.kind=5∧u.text=[45])) (hr:t.rank=6):UN t:=by
 have hd:=h5.down hw;refine ⟨λn hn=>hd (5 - n) n (by omega),λn hn _=>(hd (5 - (n+1)) (n+1) (by omega)).k hn⟩
theorem PS {t:Tr false} {m:Nat} (hr:t.rank=m+1) (hm4:m≤4) (h:KS t t.need t.toks m) (hk:m<4→UM t t.need t.toks m):UN t:=by
 have key:∀k n,n+k=m→KS t t.need t.toks n:=by
  intro k
  induction k with
  | zero=>intro n hn;rw [show n=m by omega];exact h
  | succ k ih=>intro n hn;exact (KS.k (ih (n+1) (by omega)) (by omega)).m (by omega)
 refine ⟨λn hn=>key (m - n) n (by omega),λn hn h1=>?_⟩;by_cases e:n=m
 ·subst e;exact hk hn
 ·exact (key (m - (n+1)) (n+1) (by omega)).k hn
def Hw (l:List Ak):Prop:=∃u v,l=u::v∧¬(u.kind=5∧u.text=[41])
theorem Hw.app {l:List Ak} (h:Hw l) (m:List Ak):Hw (l++m):=by
 obtain ⟨u,v,rfl,hu⟩:=h;exact ⟨u,v++m,rfl,hu⟩
theorem Hw.brk {l:List Ak} (h:Hw l) (b:Bool):Hw (Go.Proofs.YtefaigjfkddelaaGreatDoor.brk b l):=by
 unfold Go.Proofs.YtefaigjfkddelaaGreatDoor.brk
 split
 ·exact ⟨_,_,rfl,by rintro ⟨_,e⟩;cases e⟩
 ·exact h
theorem Tr.first:∀{b:Bool} (t:Tr b),t.Fit→(b=true∧t.toks=[])∨Hw t.toks
 | _,.leaf n,hf=>by
  obtain ⟨u,m,e,hk,_⟩:=Fe hf.1 hf.2.1
  exact .inr ⟨u,m,e,λh=>hk h.1⟩
 | _,.neg a,_=>.inr ⟨_,_,rfl,by rintro ⟨_,e⟩;cases e⟩
 | _,.two k a b,hf=>by
  rcases first a hf.2.2.1 with h | h
  ·cases h.1
  ·exact .inr ((h.brk _).app _)
 | _,.call x .nil,_=>.inr ⟨_,_,rfl,by rintro ⟨e,_⟩;cases e⟩
 | _,.call x (.snoc rs a),_=>.inr ⟨_,_,rfl,by rintro ⟨e,_⟩;cases e⟩
 | _,.nil,_=>.inl ⟨rfl,rfl⟩
 | _,.snoc rs a,hf=>by
  rcases first a hf.2 with h | h
  ·cases h.1
  ·rcases first rs hf.1 with h2 | h2
   ·refine .inr ?_;simp only [Tr.toks,h2.2,List.nil_append];exact h.app _
   ·exact .inr (h2.app _)
theorem QS {T:List Ak} {s:Bw} {l:List Ak} (h:Hw l) (hl:Left T s=l):BD T s [41]=false:=by
 obtain ⟨u,v,rfl,hu⟩:=h;rw [BW hl];by_cases h5:u.kind=5
 ·have:¬u.text=[41]:=λe=>hu ⟨h5,e⟩;simp [this]
 ·simp [h5]
theorem Tr.go:∀{b:Bool} (t:Tr b),t.Fit→UN t
 | _,.leaf n,hf=>by
  obtain ⟨u,m,e,hk,_⟩:=Fe hf.1 hf.2.1
  exact OO (Ut hf.1 hf.2.1 hf.2.2.1 hf.2.2.2) ⟨u,m,e,λh=>hk h.1⟩ rfl
 | _,.neg a,hf=>by
  have ga:UN a:=go a hf;have hr:=Tr.rank_le a hf;have hop:KS a (G8 5 a.rank a.need) (brk (decide (a.rank<5)) a.toks) 4:=Qq (ga.1 0 (by omega)) ga.1 (n:=4) (by omega);refine PS (m:=4) rfl (Nat.le_refl _) ?_ (λh=>absurd h (by omega));intro T s R hs hl hfol;have hl:Left T s=sg [45]::(brk (decide (a.rank<5)) a.toks++R):=hl;have hi:BD T s [45]=true:=by rw [BW hl];rfl
  show PE T .unary s _;have a0:(Tr.neg a).need=G8 5 a.rank a.need+1:=rfl;by_cases hd:s.deep<12
  ·have a1:Left T (Aq (An s))=brk (decide (a.rank<5)) a.toks++R:=AP (w:=[_]) hl rfl;have hp:=hop T (Aq (An s)) R (by show s.deep+1≤12;omega) a1 hfol;unfold Hq at hp ⊢;have a6:(Aq (An s)).deep=s.deep+1:=rfl;rw [a6] at hp;rw [a0];by_cases hh:s.deep+1+G8 5 a.rank a.need≤12
   ·rw [if_pos hh] at hp;rw [if_pos (by omega)];have:=PE.un_ok hi hd hp;have e:Bq (BP (CU a (brk (decide (a.rank<5)) a.toks) (Aq (An s)))) {kind:=8,kids:=[((plc a (Aq (An s)):Nat):Int)]}=CU (.neg a) (Tr.neg a).toks s:=by
     simp only [Bq,BP,CU,Aq,An,Tr.flat,Tr.toks,Bw.mk.injEq,List.length_cons,List.append_assoc,plc];exact ⟨by omega,trivial,by omega⟩
    have e2:(CU a (brk (decide (a.rank<5)) a.toks) (Aq (An s))).out.length=plc (.neg a) s:=by
     simp only [CU,Aq,An,plc,Tr.cnt,List.length_append,Tr.flat_len];omega
    rw [e,e2] at this;exact this
   ·rw [if_neg hh] at hp;rw [if_neg (by omega)];exact .un_err hi hd hp
  ·unfold Hq;rw [if_neg (by omega)]
   exact .un_deep hi (by omega)
 | _,.two k a b,hf=>by
  have ga:UN a:=go a hf.2.2.1;have gb:UN b:=go b hf.2.2.2;have ra:=Tr.rank_le a hf.2.2.1;have rb:=Tr.rank_le b hf.2.2.2;obtain ⟨aj,n,hn,ac,⟨i,hi,ak⟩,al⟩:=Qp hf.1 hf.2.1;have hA:=Tn (ga.1 0 (by omega)) ga.2 hn;have hB:=Qq (gb.1 0 (by omega)) gb.1 (n:=n+1) (by omega);have a0:(Tr.two k a b).need=max (G8 (n+1) a.rank a.need) (G8 (n+1+1) b.rank b.need):=by simp only [Tr.need,ac]
  have a2:(Tr.two k a b).toks=brk (decide (a.rank<n+1)) a.toks++sg (E4 k)::brk (decide (b.rank<n+1+1)) b.toks:=by simp only [Tr.toks,ac]
  have hK:UM (.two k a b) (Tr.two k a b).need (Tr.two k a b).toks n:=by
   intro T s R r hs hl hfol hr;rw [a2,List.append_assoc,List.cons_append] at hl;have am:TT (n+1) (sg (E4 k)::(brk (decide (b.rank<n+1+1)) b.toks++R)):=⟨_,_,rfl,λ_=>⟨aj,λm h1 h2=>al m h2 h1⟩⟩;refine hA T s _ r hs hl am ?_
   split
   ·rename_i a3;have a1:Left T (CU a (brk (decide (a.rank<n+1)) a.toks) s)=sg (E4 k)::(brk (decide (b.rank<n+1+1)) b.toks++R):=AP hl rfl;obtain ⟨t1,t2,_⟩:=C9 a1;have hop:GH T (CU a (brk (decide (a.rank<n+1)) a.toks) s) n=some i:=by
     unfold GH;rw [if_pos (show _=(5:Int) from t1),t2];exact hi
    have a4:Left T (An (CU a (brk (decide (a.rank<n+1)) a.toks) s))=brk (decide (b.rank<n+1+1)) b.toks++R:=AP (w:=[_]) a1 rfl;have hp:=hB T (An (CU a (brk (decide (a.rank<n+1)) a.toks) s)) R hs a4 hfol;rw [←PD hn] at hp;unfold Hq at hp;have a6:(An (CU a (brk (decide (a.rank<n+1)) a.toks) s)).deep=s.deep:=rfl;rw [a6] at hp;by_cases ai:s.deep+G8 (n+1+1) b.rank b.need≤12
    ·rw [if_pos ai] at hp;rw [if_pos (by rw [a0];omega)] at hr;refine .loop_go hop hp ?_;rw [ak];have e:Bq (CU b (brk (decide (b.rank<n+1+1)) b.toks) (An (CU a (brk (decide (a.rank<n+1)) a.toks) s))) {kind:=k,kids:=[((plc a s:Nat):Int),((plc b (An (CU a (brk (decide (a.rank<n+1)) a.toks) s)):Nat):Int)]}=CU (.two k a b) (Tr.two k a b).toks s:=by
      rw [a2];simp only [Bq,CU,An,Tr.flat,Bw.mk.injEq,List.length_append,List.length_cons,List.append_assoc,plc,Tr.flat_len];exact ⟨by omega,trivial,trivial⟩
     have e2:(CU b (brk (decide (b.rank<n+1+1)) b.toks) (An (CU a (brk (decide (a.rank<n+1)) a.toks) s))).out.length=plc (.two k a b) s:=by
      simp only [CU,An,plc,Tr.cnt,List.length_append,Tr.flat_len];omega
     rw [e,e2];exact hr
    ·rw [if_neg ai] at hp;rw [if_neg (by rw [a0];omega)] at hr;subst hr;exact .loop_err hop hp
   ·rename_i a3;rw [if_neg (by rw [a0];omega)] at hr;exact hr
  exact PS (m:=n) (by simp only [Tr.rank,ac]) (by omega) (hK.m hn) (λ_=>hK)
 | _,.call x .nil,hf=>by
  obtain ⟨a7,a8⟩:=IM hf.1;refine OO ?_ ⟨_,_,rfl,by rintro ⟨e,_⟩;cases e⟩ rfl;intro T s R hs hl hfol;have hl:Left T s=⟨3,x,0,AF,0⟩::sg [40]::sg [41]::R:=hl;obtain ⟨t1,t2,_⟩:=C9 hl;have a1:Left T (An s)=sg [40]::sg [41]::R:=AP (w:=[_]) hl rfl;have a4:Left T (Aq (An (An s)))=sg [41]::R:=AP (w:=[_]) a1 rfl;have a9:BD T (An s) [40]=true:=by rw [BW a1];rfl
  have ad:BD T (Aq (An (An s))) [41]=true:=by rw [BW a4];rfl
  show PE T .prim s _;unfold Hq;by_cases hd:s.deep<12
  ·rw [if_pos (by show s.deep+1≤12;omega)];have:=PE.pr_call0 t1 (by rw [t2];exact a7) (by rw [t2];exact a8) a9 hd ad;rw [t2] at this;exact this
  ·rw [if_neg (by show ¬s.deep+1≤12;omega)]
   exact .pr_calldeep t1 (by rw [t2];exact a7) (by rw [t2];exact a8) a9 (by omega)
 | _,.call x (.snoc rs a),hf=>by
  obtain ⟨a7,a8⟩:=IM hf.1;have gr:Wd rs:=go rs hf.2.1;have ga:UN a:=go a hf.2.2;have ra:=Tr.rank_le a hf.2.2;have a5:Hw (rs.toks++(a.toks++[sg [41]])):=by
   rcases Tr.first a hf.2.2 with h | h
   ·cases h.1
   ·rcases Tr.first rs hf.2.1 with h2 | h2
    ·rw [h2.2,List.nil_append];exact h.app _
    ·exact h2.app _
  refine OO ?_ ⟨_,_,rfl,by rintro ⟨e,_⟩;cases e⟩ rfl;intro T s R hs hl hfol;have hl:Left T s=⟨3,x,0,AF,0⟩::sg [40]::(rs.toks++(a.toks++(sg [41]::R))):=by rw [hl];simp [Tr.toks]
  obtain ⟨t1,t2,_⟩:=C9 hl;have a1:Left T (An s)=sg [40]::(rs.toks++(a.toks++(sg [41]::R))):=AP (w:=[_]) hl rfl;have a4:Left T (Aq (An (An s)))=rs.toks++(a.toks++(sg [41]::R)):=AP (w:=[_]) a1 rfl;have a9:BD T (An s) [40]=true:=by rw [BW a1];rfl
  have ad:BD T (Aq (An (An s))) [41]=false:=by
   refine QS (a5.app R) ?_;rw [a4];simp
  have a0:(Tr.call x (.snoc rs a)).need=max rs.need a.need+1:=rfl;show PE T .prim s _;unfold Hq;by_cases hd:s.deep<12
  ·refine .pr_call t1 (by rw [t2];exact a7) (by rw [t2];exact a8) a9 hd ad ?_;rw [t2];refine gr T (Aq (An (An s))) _ x [] _ (by show s.deep+1≤12;omega) a4 ?_;have a6:(Aq (An (An s))).deep=s.deep+1:=rfl;rw [a6,a0]
   split
   ·rename_i ae;have aa:Left T (CU rs rs.toks (Aq (An (An s))))=a.toks++(sg [41]::R):=AP a4 rfl;have hp:=ga.1 0 (by omega) T (CU rs rs.toks (Aq (An (An s)))) _ (by show s.deep+1≤12;omega) aa (SH 0 R);unfold Hq at hp;have af:(CU rs rs.toks (Aq (An (An s)))).deep=s.deep+1:=rfl;rw [af] at hp;by_cases a3:s.deep+1+a.need≤12
    ·rw [if_pos a3] at hp;rw [if_pos (by omega)];have ab:Left T (CU a a.toks (CU rs rs.toks (Aq (An (An s)))))=sg [41]::R:=AP aa rfl;have ag:BD T (CU a a.toks (CU rs rs.toks (Aq (An (An s))))) [44]=false:=by rw [BW ab];rfl
     have ah:BD T (CU a a.toks (CU rs rs.toks (Aq (An (An s))))) [41]=true:=by rw [BW ab];rfl
     have:=PE.ar_end (x:=x) (ks:=[]++rs.kids (Aq (An (An s))).out.length) hp ag ah;have e:Bq (BP (An (CU a a.toks (CU rs rs.toks (Aq (An (An s))))))) {kind:=7,text:=x,kids:=[]++rs.kids (Aq (An (An s))).out.length++[((plc a (CU rs rs.toks (Aq (An (An s)))):Nat):Int)]}=CU (.call x (.snoc rs a)) (Tr.call x (.snoc rs a)).toks s:=by
      simp only [Bq,BP,CU,Aq,An,Tr.flat,Tr.toks,Tr.kids,Bw.mk.injEq,List.length_cons,List.length_append,List.length_nil,List.append_assoc,plc,Tr.flat_len,List.nil_append];exact ⟨by omega,trivial,by omega⟩
     have e2:(CU a a.toks (CU rs rs.toks (Aq (An (An s))))).out.length=plc (.call x (.snoc rs a)) s:=by
      simp only [CU,Aq,An,plc,Tr.cnt,List.length_append,Tr.flat_len];omega
     rw [e,e2] at this;exact this
    ·rw [if_neg a3] at hp;rw [if_neg (by omega)];exact .ar_err hp
   ·rename_i ae;rw [if_neg (by omega)]
  ·rw [if_neg (by omega)]
   exact .pr_calldeep t1 (by rw [t2];exact a7) (by rw [t2];exact a8) a9 (by omega)
 | _,.nil,_=>by
  intro T s R x k0 r hs hl hr;have e:CU Tr.nil Tr.nil.toks s=s:=by simp [CU,Tr.toks,Tr.flat]
  rw [e,if_pos (by show s.deep+0≤12;omega)] at hr
  simpa [Tr.kids] using hr
 | _,.snoc rs a,hf=>by
  have gr:Wd rs:=go rs hf.1;have ga:UN a:=go a hf.2;have ra:=Tr.rank_le a hf.2;intro T s R x k0 r hs hl hr;have hl:Left T s=rs.toks++(a.toks++(sg [44]::R)):=by rw [hl];simp [Tr.toks]
  have a0:(Tr.snoc rs a).need=max rs.need a.need:=rfl;rw [a0] at hr;refine gr T s _ x k0 r hs hl ?_
  split
  ·rename_i ae;have aa:Left T (CU rs rs.toks s)=a.toks++(sg [44]::R):=AP hl rfl;have hp:=ga.1 0 (by omega) T (CU rs rs.toks s) _ hs aa (Vj 0 R);unfold Hq at hp;have af:(CU rs rs.toks s).deep=s.deep:=rfl;rw [af] at hp;by_cases a3:s.deep+a.need≤12
   ·rw [if_pos a3] at hp;rw [if_pos (by omega)] at hr;have ab:Left T (CU a a.toks (CU rs rs.toks s))=sg [44]::R:=AP aa rfl;have ag:BD T (CU a a.toks (CU rs rs.toks s)) [44]=true:=by rw [BW ab];rfl
    refine .ar_go hp ag ?_;have e:An (CU a a.toks (CU rs rs.toks s))=CU (.snoc rs a) (Tr.snoc rs a).toks s:=by
     simp only [CU,An,Tr.flat,Tr.toks,Bw.mk.injEq,List.length_cons,List.length_append,List.length_nil,List.append_assoc,Tr.flat_len];exact ⟨by omega,trivial,trivial⟩
    have e2:k0++rs.kids s.out.length++[((plc a (CU rs rs.toks s):Nat):Int)]=k0++(Tr.snoc rs a).kids s.out.length:=by
     simp only [CU,plc,Tr.kids,List.length_append,Tr.flat_len,List.append_assoc]
    rw [e,e2];exact hr
   ·rw [if_neg a3] at hp;rw [if_neg (by omega)] at hr;subst hr;exact .ar_err hp
  ·rename_i ae;rw [if_neg (by omega)] at hr;exact hr
theorem Tr.again (t:Tr false) (hf:t.Fit) {T:List Ak} (hT:T.map nA=t.toks++[Nj]):CQ T (if t.need≤12 then .ok (t.flat 0) else .error 6):=by
 have hg:=(t.go hf).1 0 (by have:=Tr.rank_le t hf;omega) T ⟨0,[],0⟩ [Nj] (by simp) hT (Ui 0);have hg:PE T (.lev 0) ⟨0,[],0⟩ (Hq t.need t t.toks ⟨0,[],0⟩):=hg;unfold Hq at hg;simp only [Nat.zero_add] at hg;by_cases h:t.need≤12
 ·rw [if_pos h] at hg ⊢;refine ⟨_,_,hg,?_,by simp [CU]⟩;have:Left T (CU t t.toks ⟨0,[],0⟩)=[Nj]:=AP (s:=⟨0,[],0⟩) (w:=t.toks) hT rfl;exact (C9 this).1
 ·rw [if_neg h] at hg ⊢;exact .inl hg
def W (l:List Ak):Nat:=(l.flatMap Bi).length
theorem H4:W []=0:=rfl
theorem Cs (t:Ak) (l:List Ak):W (t::l)=(Bi t).length+W l:=by simp [W]
theorem H3 (l m:List Ak):W (l++m)=W l+W m:=by simp [W]
theorem J5 (s:List UInt8):(Bi (sg s)).length=s.length:=rfl
theorem Sk (b:Bool) (l:List Ak):W (brk b l)=W l+if b then 2 else 0:=by
 cases b
 ·simp [brk]
 ·simp only [brk,if_true,Cs,H3,H4,J5,List.length_cons,List.length_nil];omega
def pw (T:List Ak) (i:Nat):Nat:=W (T.take i)
theorem U5 (T:List Ak) (i:Nat):pw T (i+1)=pw T i+(Bi (T.getD i TI)).length:=by
 unfold pw;rcases Nat.lt_or_ge i T.length with h | h
 ·rw [List.take_add_one,List.getElem?_eq_getElem h,H3,List.getD_eq_getElem?_getD,List.getElem?_eq_getElem h];simp [W]
 ·rw [List.take_of_length_le h,List.take_of_length_le (by omega),List.getD_eq_getElem?_getD,List.getElem?_eq_none h];rfl
theorem Cd (T:List Ak) (s:Bw):pw T (s.at_+1)=pw T s.at_+(Bi (Aa T s)).length:=U5 T s.at_
theorem VQ (T:List Ak) (i:Nat):pw T i≤W T:=by
 have:=H3 (T.take i) (T.drop i);rw [List.take_append_drop] at this;unfold pw;omega
theorem Gb (t:Tr false) (L:Nat):W (t.opt L)=W t.toks+if t.rank<L then 2 else 0:=by
 rw [Tr.opt,Sk];by_cases h:t.rank<L<;>simp [h]
theorem Wu {t:Ak} (h:Ep t) (k:t.kind=1):t=⟨1,[],t.num,AF,0⟩∧0≤t.num∧t.num≤9223372036854775807:=by
 cases h<;>simp_all [sg]
theorem Wv {t:Ak} (h:Ep t) (k:t.kind=2):t=⟨2,t.text,0,AF,0⟩∧KW t.text=true:=by
 cases h<;>simp_all [sg]
theorem VZ {t:Ak} (h:Ep t) (k:t.kind=3):t=⟨3,t.text,0,AF,0⟩∧KP t.text=true∧AQ t.text=false:=by
 cases h<;>simp_all [sg]
theorem Vy {t:Ak} (h:Ep t) (k:t.kind=4):t=⟨4,[],0,t.ref,0⟩∧AV t.ref=true:=by
 cases h<;>simp_all [sg]
theorem Ww {t:Ak} (h:Ep t) (k:t.kind=6):t=⟨6,[],0,AF,0⟩:=by
 cases h<;>simp_all [sg]
def V4 (T:List Ak):Prop:=∀t∈T,nA t=Nj∨Ep (nA t)
theorem EG {T:List Ak} (h:V4 T) {s:Bw} (hk:(Aa T s).kind≠0):Ep (nA (Aa T s)):=by
 rcases Nat.lt_or_ge s.at_ T.length with hl | hl
 ·have e:Aa T s=T[s.at_]:=by simp [Aa,List.getD_eq_getElem?_getD,List.getElem?_eq_getElem hl]
  rw [e] at hk ⊢;rcases h _ (List.getElem_mem hl) with h | h
  ·have:(nA T[s.at_]).kind=0:=by rw [h];rfl
   exact absurd this hk
  ·exact h
 ·have e:Aa T s=TI:=by simp [Aa,List.getD_eq_getElem?_getD,List.getElem?_eq_none hl]
  rw [e] at hk;exact absurd rfl hk
theorem Ec {T:List Ak} {s:Bw} {x:List UInt8} (h:BD T s x=true):(Bi (Aa T s)).length=x.length:=by
 obtain ⟨h1,h2⟩:=SO h;simp [Bi,h1,h2]
theorem NN:∀n,n<4→∀i,i<(Bo n).length→9≤(A6 n).getD i 0∧(A6 n).getD i 0≤19∧Cq ((A6 n).getD i 0)=n+1∧E4 ((A6 n).getD i 0)=(Bo n).getD i []:=by decide
theorem U2 {T:List Ak} {s:Bw} {n i:Nat} (hn:n<4) (h:GH T s n=some i):9≤(A6 n).getD i 0∧(A6 n).getD i 0≤19∧Cq ((A6 n).getD i 0)=n+1∧(Bi (Aa T s)).length=(E4 ((A6 n).getD i 0)).length:=by
 unfold GH at h
 split at h
 ·rename_i h5;obtain ⟨hi,hp,_⟩:=List.findIdx?_eq_some_iff_getElem.1 h;obtain ⟨a1,a2,a3,a4⟩:=NN n hn i hi;refine ⟨a1,a2,a3,?_⟩;have ht:(Bo n)[i]=(Aa T s).text:=by simpa using hp
  rw [a4,List.getD_eq_getElem?_getD,List.getElem?_eq_getElem hi];simp [Bi,h5,ht]
 ·cases h
structure Rt (T:List Ak) (L:Nat) (s s1:Bw) (b:Nat) (t:Tr false):Prop where
 fit:t.Fit
 num:t.Num
 out:s1.out=s.out++t.flat s.out.length
 plc:b=s.out.length+t.cnt - 1
 deep:s1.deep=s.deep
 need:s.deep+G8 L t.rank t.need≤12
 wid:W (t.opt L)+pw T s.at_≤pw T s1.at_
structure Lt (T:List Ak) (n:Nat) (s s1:Bw) (b:Nat) (o:List Ab) (ta t:Tr false):Prop where
 fit:t.Fit
 num:t.Num
 out:s1.out=o++t.flat o.length
 plc:b=o.length+t.cnt - 1
 deep:s1.deep=s.deep
 need:s.deep+G8 (n+1) t.rank t.need≤12
 wid:W (t.opt (n+1))+pw T s.at_≤W (ta.opt (n+1))+pw T s1.at_
structure At (T:List Ak) (s s1:Bw) (b:Nat) (o:List Ab) (x:List UInt8) (rs:Tr true) (r1:Tr true) (a1:Tr false):Prop where
 fit:(Tr.call x (.snoc r1 a1)).Fit
 num:r1.Num∧a1.Num
 out:s1.out=o++(Tr.call x (.snoc r1 a1)).flat o.length
 plc:b=o.length+(Tr.call x (.snoc r1 a1)).cnt - 1
 deep:s1.deep=s.deep - 1
 need:s.deep+(Tr.snoc r1 a1).need≤12
 wid:W r1.toks+W a1.toks+1+pw T s.at_≤W rs.toks+pw T s1.at_
def VA (T:List Ak) (m:E7) (s:Bw):FL→Prop
 | .err _=>True
 | .ok s1 b=>s.deep≤12→match m with
  | .lev n=>n<4→∃t,Rt T (n+1) s s1 b t
  | .unary=>∃t,Rt T 5 s s1 b t
  | .prim=>∃t,Rt T 6 s s1 b t
  | .loop n a=>n<4→∀o (ta:Tr false),ta.Fit→ta.Num→s.out=o++ta.flat o.length→a=o.length+ta.cnt - 1→s.deep+G8 (n+1) ta.rank ta.need≤12→∃t,Lt T n s s1 b o ta t
  | .args x ks=>∀o (rs:Tr true),Co x=true→rs.Fit→rs.Num→s.out=o++rs.flat o.length→ks=rs.kids o.length→s.deep+rs.need≤12→1≤s.deep→∃r1 a1,At T s s1 b o x rs r1 a1
theorem Tl {L L' r d:Nat} (h:L≤L'):G8 L r d≤G8 L' r d:=by
 unfold G8
 split<;>split<;>omega
theorem Vv (L r d:Nat):G8 L r d≤d+1:=by
 unfold G8
 split<;>omega
theorem M5 (L r d:Nat):d≤G8 L r d:=by
 unfold G8
 split<;>omega
theorem Rx (t:Tr false) {L L':Nat} (h:L≤L'):W (t.opt L)≤W (t.opt L'):=by
 rw [Gb,Gb]
 split<;>split<;>omega
theorem Rt.low {T:List Ak} {L L':Nat} {s s1:Bw} {b:Nat} {t:Tr false} (h:Rt T L s s1 b t) (hl:L'≤L):Rt T L' s s1 b t:=
 ⟨h.fit,h.num,h.out,h.plc,h.deep,by have:=Tl (r:=t.rank) (d:=t.need) hl;have:=h.need;omega,by have:=Rx t hl;have:=h.wid;omega⟩
theorem K4 {T:List Ak} {n:Nat} (hn:n<4) {s s1:Bw} {a:Nat} (h:VA T (below n) s (.ok s1 a)) (hd:s.deep≤12):∃t,Rt T (n+2) s s1 a t:=by
 unfold below at h
 split at h
 ·exact h hd (by omega)
 ·have e:n=3:=by omega
  subst e;exact h hd
theorem Rt.leaf {T:List Ak} {s s1:Bw} {n:Ab} (k:Int) (hkk:n.kind=k) (h0:1≤k) (h1:k≤6) (hk:n.kids=[]) (hp:A3 n=true) (hn:∀k∈BH n,k.num≤9223372036854775807) (hd:s.deep≤12) (ho:s1.out=s.out++[n]) (hdd:s1.deep=s.deep) (hw:W (BH n)+pw T s.at_≤pw T s1.at_):∃t,Rt T 6 s s1 s.out.length t:=by
 refine ⟨.leaf n,⟨by omega,by omega,hk,hp⟩,hn,ho,by simp [Tr.cnt],hdd,hd,?_⟩;rw [Gb]
 simpa [Tr.rank,Tr.toks] using hw
theorem Qj {a:Tr false} (h:a.Num):(Tr.neg a).Num:=λk hk=>by
 simp only [Tr.toks,List.mem_cons] at hk;rcases hk with rfl | hk
 ·decide
 ·rcases Eb hk with hk | rfl | rfl
  ·exact h k hk
  ·decide
  ·decide
theorem Qk {o:Int} {a b:Tr false} (h:a.Num) (h':b.Num):(Tr.two o a b).Num:=λk hk=>by
 simp only [Tr.toks,List.mem_append,List.mem_cons] at hk;rcases hk with hk | rfl | hk
 ·rcases Eb hk with hk | rfl | rfl
  ·exact h k hk
  ·decide
  ·decide
 ·show (0:Int)≤_;decide
 ·rcases Eb hk with hk | rfl | rfl
  ·exact h' k hk
  ·decide
  ·decide
theorem NL {rs:Tr true} {a:Tr false} (h:rs.Num) (h':a.Num):(Tr.snoc rs a).Num:=λk hk=>by
 simp only [Tr.toks,List.mem_append,List.mem_cons,List.not_mem_nil,or_false] at hk;rcases hk with hk | hk | rfl
 ·exact h k hk
 ·exact h' k hk
 ·decide
theorem NK {x:List UInt8} {rs:Tr true} {a:Tr false} (h:rs.Num) (h':a.Num):(Tr.call x (.snoc rs a)).Num:=λk hk=>by
 simp only [Tr.toks,List.mem_cons,List.mem_append,List.not_mem_nil,or_false] at hk;rcases hk with rfl | rfl | hk | hk | rfl
 ·show (0:Int)≤_;decide
 ·decide
 ·exact h k hk
 ·exact h' k hk
 ·decide
theorem PE.trees {T:List Ak} (hT:V4 T) {m:E7} {s:Bw} {r:FL} (h:PE T m s r):VA T m s r:=by
 induction h with
 | lev_err _ _=>trivial
 | @lev_ok n s s1 a r _ _ ih1 ih2=>
  cases r with
  | err e=>trivial
  | ok s2 b=>
   intro hd hn;obtain ⟨t,h1⟩:=K4 hn ih1 hd;have h1:=h1.low (show n+1≤n+2 by omega);obtain ⟨u,h2⟩:=ih2 (by rw [h1.deep];exact hd) hn s.out t h1.fit h1.num h1.out h1.plc (by rw [h1.deep];exact h1.need)
   exact ⟨u,h2.fit,h2.num,h2.out,h2.plc,h2.deep.trans h1.deep,by rw [←h1.deep];exact h2.need,by have:=h1.wid;have:=h2.wid;omega⟩
 | @loop_end n s a _=>exact λhd hn o ta h1 h2 h3 h4 h5=>⟨ta,h1,h2,h3,h4,rfl,h5,Nat.le_refl _⟩
 | loop_err _ _ _=>trivial
 | @loop_go n s a i s1 b r hi _ _ ih1 ih2=>
  cases r with
  | err e=>trivial
  | ok s2 c=>
   intro hd hn o ta h1 h2 h3 h4 h5;obtain ⟨k0,k1,k2,k3⟩:=U2 hn hi;obtain ⟨tb,hb⟩:=K4 hn ih1 hd;have ag:s1.out=s.out++tb.flat s.out.length:=hb.out;have a9:s1.deep=s.deep:=hb.deep;have al:s.deep+G8 (n+2) tb.rank tb.need≤12:=hb.need;have ai:b=s.out.length+tb.cnt - 1:=hb.plc;have am:W (tb.opt (n+2))+pw T (s.at_+1)≤pw T s1.at_:=hb.wid;have a5:s.out.length=o.length+ta.cnt:=by rw [h3,List.length_append,Tr.flat_len]
   have a6:(Tr.two ((A6 n).getD i 0) ta tb).need=max (G8 (n+1) ta.rank ta.need) (G8 (n+2) tb.rank tb.need):=by simp only [Tr.need,k2]
   have a2:(Tr.two ((A6 n).getD i 0) ta tb).rank=n+1:=k2;have aa:G8 (n+1) (Tr.two ((A6 n).getD i 0) ta tb).rank (Tr.two ((A6 n).getD i 0) ta tb).need=max (G8 (n+1) ta.rank ta.need) (G8 (n+2) tb.rank tb.need):=by
    unfold G8;rw [a2,if_neg (by omega),a6];rfl
   have hW:W ((Tr.two ((A6 n).getD i 0) ta tb).opt (n+1))=W (ta.opt (n+1))+(E4 ((A6 n).getD i 0)).length+W (tb.opt (n+2)):=by
    have e2:tb.opt (n+2)=brk (decide (tb.rank<n+1+1)) tb.toks:=rfl;have e1:ta.opt (n+1)=brk (decide (ta.rank<n+1)) ta.toks:=rfl;rw [Gb,a2,if_neg (by omega),e1,e2];simp only [Tr.toks,H3,Cs,J5,k2];omega
   have a0:=Cd T s;obtain ⟨t,h⟩:=ih2 (by show s1.deep≤12;omega) hn o (.two ((A6 n).getD i 0) ta tb) ⟨k0,k1,h1,hb.fit⟩ (Qk h2 hb.num) (by
    show s1.out++[_]=_;rw [ag,ai,h3,h4];simp only [Tr.flat,List.append_assoc,List.length_append,Tr.flat_len]) (by
    show s1.out.length=_;rw [ag,List.length_append,Tr.flat_len,a5];simp only [Tr.cnt];omega) (by
    show s1.deep+_≤12;rw [aa,a9];omega)
   have e1:(Bq s1 {kind:=(A6 n).getD i 0,kids:=[(a:Int),(b:Int)]}).deep=s1.deep:=rfl;have e2:(Bq s1 {kind:=(A6 n).getD i 0,kids:=[(a:Int),(b:Int)]}).at_=s1.at_:=rfl;refine ⟨t,h.fit,h.num,h.out,h.plc,by rw [h.deep,e1,a9],by have:=h.need;rw [e1,a9] at this;exact this,?_⟩;have:=h.wid;rw [e2,hW] at this
   omega
 | @un_prim s r _ _ ih=>
  cases r with
  | err e=>trivial
  | ok s2 b=>
   intro hd;obtain ⟨t,h⟩:=ih hd
   exact ⟨t,h.low (by omega)⟩
 | un_deep _ _=>trivial
 | un_err _ _ _ _=>trivial
 | @un_ok s s1 a hi hd _ ih=>
  intro _;obtain ⟨t,h⟩:=ih (by show s.deep+1≤12;omega);have ho:s1.out=s.out++t.flat s.out.length:=h.out;have a7:s1.deep=s.deep+1:=h.deep;have a8:s.deep+1+G8 5 t.rank t.need≤12:=h.need;have hp:a=s.out.length+t.cnt - 1:=h.plc;have hw:W (t.opt 5)+pw T (s.at_+1)≤pw T s1.at_:=h.wid;have a0:=Cd T s;have hc:=Ec hi;simp only [List.length_cons,List.length_nil] at hc;refine ⟨.neg t,h.fit,Qj h.num,?_,?_,?_,?_,?_⟩
  ·show s1.out++[_]=_;rw [ho,hp];simp only [Tr.flat,List.append_assoc]
  ·rw [ho,List.length_append,Tr.flat_len];simp only [Tr.cnt];omega
  ·show s1.deep - 1=s.deep;omega
  ·have:G8 5 (Tr.neg t).rank (Tr.neg t).need=G8 5 t.rank t.need+1:=rfl;rw [this];omega
  ·have:W ((Tr.neg t).opt 5)=1+W (t.opt 5):=by
    rw [Gb (.neg t)];simp only [Tr.rank,Tr.toks,Cs,J5,Tr.opt,List.length_cons,List.length_nil];rfl
   rw [this];show _≤pw T s1.at_
   omega
 | pr_sign _ _=>trivial
 | pr_deep _ _=>trivial
 | pr_err _ _ _ _=>trivial
 | pr_open _ _ _ _ _=>trivial
 | @pr_ok s s1 a hi hd _ a4 ih=>
  intro _;obtain ⟨t,h⟩:=ih (by show s.deep+1≤12;omega) (by omega);have a7:s1.deep=s.deep+1:=h.deep;have a8:s.deep+1+G8 1 t.rank t.need≤12:=h.need;have hw:W (t.opt 1)+pw T (s.at_+1)≤pw T s1.at_:=h.wid;have a0:=Cd T s;have a3:=Cd T s1;have hc:=Ec hi;have ab:=Ec a4;simp only [List.length_cons,List.length_nil] at hc ab;refine ⟨t,h.fit,h.num,h.out,h.plc,?_,?_,?_⟩
  ·show s1.deep - 1=s.deep;omega
  ·have:=Vv 6 t.rank t.need;have:=M5 1 t.rank t.need;omega
  ·show _≤pw T (s1.at_+1);rw [Gb] at hw ⊢
   split<;>omega
 | pr_end _=>trivial
 | @pr_num s h=>
  intro hd;obtain ⟨e,h0,h1⟩:=Wu (EG hT (s:=s) (by omega)) h;have a0:=Cd T s;have ek:BH {kind:=1,num:=(Aa T s).num}=[nA (Aa T s)]:=by rw [e];rfl
  refine Rt.leaf 1 rfl (by decide) (by decide) rfl (BL (by show decide (0≤(Aa T s).num)=true;exact decide_eq_true h0) ⟨rfl,rfl,rfl,rfl⟩) (by rw [ek];intro k hk;rw [List.mem_singleton.1 hk];exact h1) hd rfl rfl ?_;rw [ek,Cs,H4,GE];show _≤pw T (s.at_+1)
  omega
 | @pr_text s h=>
  intro hd;obtain ⟨e,h0⟩:=Wv (EG hT (s:=s) (by omega)) h;have a0:=Cd T s;have ek:BH {kind:=2,text:=(Aa T s).text}=[nA (Aa T s)]:=by rw [e];rfl
  refine Rt.leaf 2 rfl (by decide) (by decide) rfl (BL (by show KW (Aa T s).text=true;exact h0) ⟨rfl,rfl,rfl,rfl⟩) (by rw [ek];intro k hk;rw [List.mem_singleton.1 hk,e];show (0:Int)≤9223372036854775807;decide) hd rfl rfl ?_;rw [ek,Cs,H4,GE];show _≤pw T (s.at_+1)
  omega
 | @pr_dead s h=>
  intro hd;have e:=Ww (EG hT (s:=s) (by omega)) h;have a0:=Cd T s;have ek:BH {kind:=4}=[nA (Aa T s)]:=by rw [e];rfl
  refine Rt.leaf 4 rfl (by decide) (by decide) rfl rfl (by rw [ek];intro k hk;rw [List.mem_singleton.1 hk,e];show (0:Int)≤9223372036854775807;decide) hd rfl rfl ?_;rw [ek,Cs,H4,GE];show _≤pw T (s.at_+1)
  omega
 | @pr_ref s h _=>
  intro hd;obtain ⟨e,h0⟩:=Vy (EG hT (s:=s) (by omega)) h;have a0:=Cd T s;have ek:BH {kind:=5,ref:=(Aa T s).ref}=[nA (Aa T s)]:=by rw [e];rfl
  refine Rt.leaf 5 rfl (by decide) (by decide) rfl (BL (by show AV (Aa T s).ref=true;exact h0) ⟨rfl,rfl,rfl,rfl⟩) (by rw [ek];intro k hk;rw [List.mem_singleton.1 hk,e];show (0:Int)≤9223372036854775807;decide) hd rfl rfl ?_;rw [ek,Cs,H4,GE];show _≤pw T (s.at_+1)
  omega
 | @pr_range s h hi h' hr=>
  intro hd;obtain ⟨e,h0⟩:=Vy (EG hT (s:=s) (by omega)) h;obtain ⟨e',ac⟩:=Vy (EG hT (s:=An (An s)) (by omega)) h';have a0:=Cd T s;have a3:pw T (s.at_+1+1)=pw T (s.at_+1)+(Bi (Aa T (An s))).length:=Cd T (An s);have ad:pw T (s.at_+1+1+1)=pw T (s.at_+1+1)+(Bi (Aa T (An (An s)))).length:=Cd T (An (An s));have hc:=Ec hi;simp only [List.length_cons,List.length_nil] at hc;have ek:BH {kind:=6,ref:=(Aa T s).ref,to:=(Aa T (An (An s))).ref}=[nA (Aa T s),sg [58],nA (Aa T (An (An s)))]:=by rw [e,e'];rfl
  refine Rt.leaf 6 rfl (by decide) (by decide) rfl (BL (by show (AV (Aa T s).ref&&(AV (Aa T (An (An s))).ref&&Bk (Aa T s).ref (Aa T (An (An s))).ref))=true;have h0:AV (Aa T s).ref=true:=h0;have ac:AV (Aa T (An (An s))).ref=true:=ac;rw [h0,ac,hr];rfl) ⟨rfl,rfl,rfl,rfl⟩) (by
   rw [ek];intro k hk;simp only [List.mem_cons,List.not_mem_nil,or_false] at hk;rcases hk with rfl | rfl | rfl
   ·rw [e];show (0:Int)≤9223372036854775807;decide
   ·decide
   ·rw [e'];show (0:Int)≤9223372036854775807;decide) hd rfl rfl ?_
  rw [ek,Cs,Cs,Cs,H4,GE,GE,J5];show _≤pw T (s.at_+1+1+1);simp only [List.length_cons,List.length_nil]
  omega
 | pr_norange _ _ _=>trivial
 | @pr_true s h h1=>
  intro hd;have a0:=Cd T s;have hl:(Bi (Aa T s)).length=4:=by simp [Bi,h,h1,Db]
  refine Rt.leaf 3 rfl (by decide) (by decide) rfl rfl (by decide) hd rfl rfl ?_;have:W (BH {kind:=3,num:=1})=4:=rfl;rw [this];show _≤pw T (s.at_+1)
  omega
 | @pr_false s h h1=>
  intro hd;have a0:=Cd T s;have hl:(Bi (Aa T s)).length=5:=by simp [Bi,h,h1,C3]
  refine Rt.leaf 3 rfl (by decide) (by decide) rfl rfl (by decide) hd rfl rfl ?_;have:W (BH {kind:=3})=5:=rfl;rw [this];show _≤pw T (s.at_+1)
  omega
 | pr_nocall _ _ _ _=>trivial
 | pr_calldeep _ _ _ _ _=>trivial
 | @pr_call0 s h h1 h2 ae hd a4=>
  intro _;obtain ⟨e,f0,f1⟩:=VZ (EG hT (s:=s) (by omega)) h;have hn:Co (Aa T s).text=true:=by
   have f0:KP (Aa T s).text=true:=f0;have f1:AQ (Aa T s).text=false:=f1;simp [Co,f0,f1,h1,h2]
  have a0:=Cd T s;have a3:pw T (s.at_+1+1)=pw T (s.at_+1)+(Bi (Aa T (An s))).length:=Cd T (An s);have ad:pw T (s.at_+1+1+1)=pw T (s.at_+1+1)+(Bi (Aa T (Aq (An (An s))))).length:=Cd T (Aq (An (An s)));have hc:=Ec ae;have ab:=Ec a4;have hx:(Bi (Aa T s)).length=(Aa T s).text.length:=by simp [Bi,h]
  simp only [List.length_cons,List.length_nil] at hc ab;refine ⟨.call (Aa T s).text .nil,⟨hn,trivial⟩,?_,rfl,by simp [Tr.cnt],rfl,?_,?_⟩
  ·intro k hk;simp only [Tr.toks,List.mem_cons,List.not_mem_nil,or_false] at hk;rcases hk with rfl | rfl | rfl
   ·show (0:Int)≤_;decide
   ·decide
   ·decide
  ·show s.deep+1≤12;omega
  ·rw [Gb];simp only [Tr.rank,Tr.toks,Cs,H4,J5,List.length_cons,List.length_nil];show (Aa T s).text.length+_+_+_≤pw T (s.at_+1+1+1);simp
   omega
 | @pr_call s r h h1 h2 ae hd a4 _ ih=>
  cases r with
  | err e=>trivial
  | ok s2 b=>
   intro _;obtain ⟨e,f0,f1⟩:=VZ (EG hT (s:=s) (by omega)) h;have hn:Co (Aa T s).text=true:=by
    have f0:KP (Aa T s).text=true:=f0;have f1:AQ (Aa T s).text=false:=f1;simp [Co,f0,f1,h1,h2]
   obtain ⟨r1,a1,hh⟩:=ih (by show s.deep+1≤12;omega) s.out .nil hn trivial (λk hk=>by cases hk) (by simp [Tr.flat,Aq,An]) rfl (by show s.deep+1+0≤12;omega) (by show 1≤s.deep+1;omega);have a0:=Cd T s;have a3:pw T (s.at_+1+1)=pw T (s.at_+1)+(Bi (Aa T (An s))).length:=Cd T (An s);have hc:=Ec ae;have hx:(Bi (Aa T s)).length=(Aa T s).text.length:=by simp [Bi,h]
   simp only [List.length_cons,List.length_nil] at hc;have a8:s.deep+1+(Tr.snoc r1 a1).need≤12:=hh.need;have hw:W r1.toks+W a1.toks+1+pw T (s.at_+1+1)≤0+pw T s2.at_:=hh.wid;have a7:s2.deep=s.deep+1 - 1:=hh.deep;refine ⟨.call (Aa T s).text (.snoc r1 a1),hh.fit,NK hh.num.1 hh.num.2,hh.out,hh.plc,by omega,?_,?_⟩
   ·show s.deep+((Tr.snoc r1 a1).need+1)≤12;omega
   ·rw [Gb];simp only [Tr.rank,Tr.toks,Cs,H3,H4,J5,List.length_cons,List.length_nil];show (Aa T s).text.length+_+_+_≤_;simp
    omega
 | ar_err _ _=>trivial
 | @ar_go x ks s s1 a r _ ah _ ih1 ih2=>
  cases r with
  | err e=>trivial
  | ok s2 b=>
   intro hd o rs hx h1 h2 h3 h4 h5 h6;obtain ⟨t,h⟩:∃t,Rt T 1 s s1 a t:=ih1 hd (by omega);have aj:=M5 1 t.rank t.need;have a8:=h.need;have a7:=h.deep;have a5:s.out.length=o.length+rs.cnt:=by rw [h3,List.length_append,Tr.flat_len]
   obtain ⟨r1,a1,hh⟩:=ih2 (by show s1.deep≤12;omega) o (.snoc rs t) hx ⟨h1,h.fit⟩ (NL h2 h.num) (by
    show s1.out=_;rw [h.out,h3];simp only [Tr.flat,List.append_assoc,List.length_append,Tr.flat_len]) (by
    rw [h4,h.plc,a5];simp only [Tr.kids]) (by
    show s1.deep+max rs.need t.need≤12;omega) (by show 1≤s1.deep;omega)
   have af:W (t.opt 1)+pw T s.at_≤pw T s1.at_:=h.wid;have ak:W r1.toks+W a1.toks+1+pw T (s1.at_+1)≤W (Tr.snoc rs t).toks+pw T s2.at_:=hh.wid;have a0:=Cd T s1;have hc:=Ec ah;simp only [List.length_cons,List.length_nil] at hc;have an:s2.deep=s1.deep - 1:=hh.deep;have ao:s1.deep+(Tr.snoc r1 a1).need≤12:=hh.need;refine ⟨r1,a1,hh.fit,hh.num,hh.out,hh.plc,by omega,by omega,?_⟩;rw [Gb] at af;simp only [Tr.toks,H3,Cs,H4,J5,List.length_cons,List.length_nil] at ak
   omega
 | ar_open _ _ _ _=>trivial
 | @ar_end x ks s s1 a _ ah a4 ih=>
  intro hd o rs hx h1 h2 h3 h4 h5 h6;obtain ⟨t,h⟩:∃t,Rt T 1 s s1 a t:=ih hd (by omega);have aj:=M5 1 t.rank t.need;have a8:=h.need;have a7:=h.deep;have a5:s.out.length=o.length+rs.cnt:=by rw [h3,List.length_append,Tr.flat_len]
  have af:W (t.opt 1)+pw T s.at_≤pw T s1.at_:=h.wid;have a0:=Cd T s1;have hc:=Ec a4;simp only [List.length_cons,List.length_nil] at hc;refine ⟨rs,t,⟨hx,h1,h.fit⟩,⟨h2,h.num⟩,?_,?_,by show s1.deep - 1=s.deep - 1;omega,?_,?_⟩
  ·show s1.out++[_]=_;rw [h.out,h3,h4,h.plc,a5];simp only [Tr.flat,Tr.kids,List.append_assoc,List.length_append,Tr.flat_len]
  ·rw [h.out,h3];simp only [List.length_append,Tr.flat_len,Tr.cnt];omega
  ·show s.deep+max rs.need t.need≤12;omega
  ·show _≤_+pw T (s1.at_+1);rw [Gb] at af;omega
theorem RC {s:List UInt8} {T:List Ak} {l:List Ab} (h:He s=some T) (hp:CQ T (.ok l)):∃t:Tr false,t.Fit∧t.Num∧t.flat 0=l∧t.need≤12∧t.text.length≤s.length:=by
 obtain ⟨hC,hw⟩:=N0 _ s 0 (Nat.le_refl _) h;obtain ⟨s1,a,a0,_,ho⟩:=hp;obtain ⟨t,ht⟩:=(a0.trees hC) (by simp) (by omega);have h1:=ht.out;have h2:=ht.need;have h3:=ht.wid;have h4:=M5 1 t.rank t.need;have h5:=VQ T s1.at_;rw [Gb] at h3;have h6:W T≤s.length:=hw;refine ⟨t,ht.fit,ht.num,by rw [←ho,h1];rfl,by simp only [Nat.zero_add] at h2;omega,?_⟩;show W t.toks≤_;omega
noncomputable def AM (s:List UInt8):Except Int (List Ab):=open Classical in
 if 300<s.length then .error 4 else match He s with
 | none=>.error 5
 | some T=>if h:∃o,CQ T o then h.choose else .error 0
theorem I3 {s:List UInt8} {T:List Ak} {o:Except Int (List Ab)} (h300:s.length≤300) (hl:He s=some T) (hp:CQ T o):AM s=o:=by
 unfold AM;rw [if_neg (by omega),hl];have hx:∃o,CQ T o:=⟨o,hp⟩;simp only;rw [dif_pos hx];exact hx.choose_spec.det hp
theorem Df.res {s:List UInt8} {v:Value} {w:World} {lo:Nat} (h:Df s v w lo):VB w lo v (AM s):=by
 unfold Df at h;by_cases h1:300<s.length
 ·rw [if_pos h1] at h;have:AM s=.error 4:=by unfold AM;rw [if_pos h1]
  rw [this];exact h
 ·rw [if_neg h1] at h
  cases e:He s with
  | none=>
   rw [e] at h;have:AM s=.error 5:=by unfold AM;rw [if_neg h1,e]
   rw [this];exact h
  | some T=>
   rw [e] at h;obtain ⟨o,hp,hr⟩:=h;rw [I3 (by omega) e hp];exact hr
theorem LM {s:List UInt8} {l:List Ab} (h:AM s=.ok l):s.length≤300∧∃t:Tr false,t.Fit∧t.Num∧t.flat 0=l∧t.need≤12∧t.text.length≤s.length:=by
 unfold AM at h
 split at h
 ·cases h
 ·rename_i h1
  split at h
  ·cases h
  ·rename_i T e
   split at h
   ·rename_i hx;have:=hx.choose_spec;rw [h] at this;exact ⟨by omega,RC e this⟩
   ·cases h
theorem IR (t:Tr false) (hf:t.Fit) (hn:t.Num):AM t.text=if 300<t.text.length then .error 4 else if t.need≤12 then .ok (t.flat 0) else .error 6:=by
 obtain ⟨T,h1,h2⟩:=t.lex hf hn;by_cases h3:300<t.text.length
 ·rw [if_pos h3];unfold AM;rw [if_pos h3]
 ·rw [if_neg h3];exact I3 (by omega) h1 (t.again hf h2)
def Da (o:Nat):Tr false→Ab
 | .leaf n=>n
 | .neg a=>{kind:=8,kids:=[((o+a.cnt - 1:Nat):Int)]}
 | .two k a b=>{kind:=k,kids:=[((o+a.cnt - 1:Nat):Int),((o+a.cnt+b.cnt - 1:Nat):Int)]}
 | .call x ks=>{kind:=7,text:=x,kids:=ks.kids o}
def Nd (o:Nat):Tr false→List Ab
 | .leaf _=>[]
 | .neg a=>a.flat o
 | .two _ a b=>a.flat o++b.flat (o+a.cnt)
 | .call _ ks=>ks.flat o
theorem C8 (o:Nat) (t:Tr false):t.flat o=Nd o t++[Da o t]:=by
 cases t with
 | leaf n=>rfl
 | neg a=>rfl
 | two k a b=>rfl
 | call x ks=>rfl
theorem Sy (o:Nat) (t:Tr false):(Nd o t).length+1=t.cnt:=by
 have:=congrArg List.length (C8 o t)
 simpa [Tr.flat_len] using this.symm
theorem Ib {α:Type} {a b:List α} {x y:α} (h:a++[x]=b++[y]):a=b∧x=y:=by
 have:=List.append_inj' h rfl;exact ⟨this.1,by simpa using this.2⟩
theorem Ka:∀(ks:Tr true) (o o':Nat),(ks.kids o).length=(ks.kids o').length
 | .nil,_,_=>rfl
 | .snoc rs a,o,o'=>by simp [Tr.kids,Ka rs o o']
theorem Tr.inj:∀{b:Bool} (t u:Tr b),t.Fit→u.Fit→∀l m:List Ab,l++t.flat l.length=m++u.flat m.length→(b=false∨(t.kids 0).length=(u.kids 0).length)→t=u∧l=m
 | _,.leaf n,u,hf,hu,l,m,h,_=>by
  rw [C8 _ u,←List.append_assoc] at h;obtain ⟨h1,h2⟩:=Ib (a:=l) h
  cases u with
  | leaf n'=>exact ⟨by rw [show n=n' from h2],by simpa [Nd] using h1⟩
  | neg a=>have:=hf.2.1;rw [h2] at this;simp [Da] at this
  | two k a b=>have:=hf.2.1;have:=hu.1;rw [h2] at *;simp [Da] at *;omega
  | call x ks=>have:=hf.2.1;rw [h2] at this;simp [Da] at this
 | _,.neg a,u,hf,hu,l,m,h,_=>by
  rw [C8 _ u,C8 _ (.neg a),←List.append_assoc,←List.append_assoc] at h;obtain ⟨h1,h2⟩:=Ib h
  cases u with
  | leaf n'=>have:=hu.2.1;rw [←show Da l.length (.neg a)=n' from h2] at this;simp [Da] at this
  | neg a'=>
   obtain ⟨e1,e2⟩:=inj a a' hf hu l m h1 (.inl rfl)
   exact ⟨by rw [e1],e2⟩
  | two k a b=>have:=hu.1;have h3:=congrArg Ab.kind h2;simp [Da] at h3;omega
  | call x ks=>have h3:=congrArg Ab.kind h2;simp [Da] at h3
 | _,.two k a b,u,hf,hu,l,m,h,_=>by
  rw [C8 _ u,C8 _ (.two k a b),←List.append_assoc,←List.append_assoc] at h;obtain ⟨h1,h2⟩:=Ib h;have h3:=congrArg Ab.kind h2;have hk:=hf.1
  cases u with
  | leaf n'=>have:=hu.2.1;simp [Da] at h3;omega
  | neg a'=>simp [Da] at h3;omega
  | two k' a' b'=>
   simp only [Nd] at h1;rw [←List.append_assoc,←List.append_assoc] at h1;have e:l.length+a.cnt=(l++a.flat l.length).length:=by simp [Tr.flat_len]
   have e':m.length+a'.cnt=(m++a'.flat m.length).length:=by simp [Tr.flat_len]
   rw [e,e'] at h1;obtain ⟨q1,q2⟩:=inj b b' hf.2.2.2 hu.2.2.2 _ _ h1 (.inl rfl);obtain ⟨q3,q4⟩:=inj a a' hf.2.2.1 hu.2.2.1 l m q2 (.inl rfl);refine ⟨?_,q4⟩
   rw [q1,q3,show k=k' from h3]
  | call x ks=>simp [Da] at h3;omega
 | _,.call x ks,u,hf,hu,l,m,h,_=>by
  rw [C8 _ u,C8 _ (.call x ks),←List.append_assoc,←List.append_assoc] at h;obtain ⟨h1,h2⟩:=Ib h;have h3:=congrArg Ab.kind h2
  cases u with
  | leaf n'=>have:=hu.2.1;simp [Da] at h3;omega
  | neg a'=>simp [Da] at h3
  | two k a b=>have:=hu.1;simp [Da] at h3;omega
  | call x' ks'=>
   have h4:=congrArg (λn=>n.kids.length) h2;simp only [Da] at h4;obtain ⟨q1,q2⟩:=inj ks ks' hf.2 hu.2 l m h1 (.inr (by rw [Ka ks 0 l.length,Ka ks' 0 m.length];exact h4));have h5:=congrArg Ab.text h2;refine ⟨?_,q2⟩
   rw [q1,show x=x' from h5]
 | _,.nil,u,_,_,l,m,h,hk=>by
  rcases u.snoc_form with rfl | ⟨rs,a,rfl⟩
  ·exact ⟨rfl,by simpa [Tr.flat] using h⟩
  ·simp [Tr.kids] at hk
 | _,.snoc rs a,u,hf,hu,l,m,h,hk=>by
  rcases u.snoc_form with rfl | ⟨rs',a',rfl⟩
  ·simp [Tr.kids] at hk
  ·simp only [Tr.flat] at h;rw [←List.append_assoc,←List.append_assoc] at h;have e:l.length+rs.cnt=(l++rs.flat l.length).length:=by simp [Tr.flat_len]
   have e':m.length+rs'.cnt=(m++rs'.flat m.length).length:=by simp [Tr.flat_len]
   rw [e,e'] at h;obtain ⟨q1,q2⟩:=inj a a' hf.2 hu.2 _ _ h (.inl rfl);obtain ⟨q3,q4⟩:=inj rs rs' hf.1 hu.1 l m q2 (.inr (by simpa [Tr.kids] using hk));exact ⟨by rw [q1,q3],q4⟩
theorem Tr.goes:∀{b:Bool} (t:Tr b),t.Fit→∀(o:Nat) (st:List Int),AR o st (t.flat o)=some (st++(if b then t.kids o else [((o+t.cnt - 1:Nat):Int)]))
 | _,.leaf n,hf,o,st=>by
  have hc:Hb n=n.kids.length:=by
   have h1:=hf.1;have h2:=hf.2.1;have a0:C2 n.kind=0:=by
    unfold C2;rw [if_neg (by omega),if_neg (by omega),if_neg (by omega),if_neg (by omega)]
   rw [hf.2.2.1,Hb,a0];rfl
  have:=Gl (l:=[]) (i:=o) (st:=st) (st':=st) (ks:=[]) (by simp [AR]) hf.2.2.1 hc hf.2.2.2
  simpa [Tr.cnt,Tr.flat] using this
 | _,.neg a,hf,o,st=>by
  have h:=goes a hf o st;have:=Gl (ks:=[((o+a.cnt - 1:Nat):Int)]) (n:={kind:=8,kids:=[((o+a.cnt - 1:Nat):Int)]}) h rfl rfl rfl;rw [Tr.flat_len] at this
  simpa [Tr.cnt,Tr.flat] using this
 | _,.two k a b,hf,o,st=>by
  have h1:=goes a hf.2.2.1 o st;have h2:=goes b hf.2.2.2 (o+a.cnt) (st++[((o+a.cnt - 1:Nat):Int)]);have hn:=KN hf.1 hf.2.1 ((o+a.cnt - 1:Nat):Int) ((o+a.cnt+b.cnt - 1:Nat):Int);have h3:AR o st (a.flat o++b.flat (o+a.cnt))=some (st++[((o+a.cnt - 1:Nat):Int),((o+a.cnt+b.cnt - 1:Nat):Int)]):=by
   rw [CT,h1];simp only [Bool.false_eq_true,if_false,Option.bind_some,Tr.flat_len];simp only [Bool.false_eq_true,if_false] at h2;rw [h2];simp
  have:=Gl (n:={kind:=k,kids:=[((o+a.cnt - 1:Nat):Int),((o+a.cnt+b.cnt - 1:Nat):Int)]}) h3 rfl hn.1 hn.2;simp only [List.length_append,Tr.flat_len] at this;simp only [Tr.flat,this,Tr.cnt]
  simp
 | _,.call x ks,hf,o,st=>by
  have h:=goes ks hf.2 o st;simp only [if_true] at h;have hn:=Gs hf.1 (ks.kids o);have:=Gl (n:={kind:=7,text:=x,kids:=ks.kids o}) h rfl hn.1 hn.2;rw [Tr.flat_len] at this
  simpa [Tr.cnt,Tr.flat] using this
 | _,.nil,_,o,st=>by simp [AR,Tr.flat,Tr.kids]
 | _,.snoc rs a,hf,o,st=>by
  have h1:=goes rs hf.1 o st;have h2:=goes a hf.2 (o+rs.cnt) (st++rs.kids o);simp only [if_true] at h1;simp only [Bool.false_eq_true,if_false] at h2;simp only [Tr.flat,Tr.kids,CT,h1,Option.bind_some,Tr.flat_len,h2,if_true];simp
theorem Tr.tree (t:Tr false) (hf:t.Fit):BI (t.flat 0)=true:=by
 have:=t.goes hf 0 [];simp only [List.nil_append,Bool.false_eq_true,if_false] at this;rw [BI,this];rfl
noncomputable def B6 (l:List Ab):List UInt8:=open Classical in if h:∃t:Tr false,t.Fit∧t.flat 0=l then h.choose.text else []
theorem I5 {t:Tr false} (hf:t.Fit):B6 (t.flat 0)=t.text:=by
 unfold B6;have hx:∃u:Tr false,u.Fit∧u.flat 0=t.flat 0:=⟨t,hf,rfl⟩;rw [dif_pos hx];obtain ⟨h1,h2⟩:=hx.choose_spec;rw [(Tr.inj _ t h1 hf [] [] (by simpa using h2) (.inl rfl)).1]
theorem LN {l:List Ab} (h:BI l=false):B6 l=[]:=by
 unfold B6;rw [dif_neg];rintro ⟨t,hf,rfl⟩;rw [t.tree hf] at h;cases h
theorem IV {s:List UInt8} {l:List Ab} (h:AM s=.ok l):AM (B6 l)=.ok l∧(B6 l).length≤s.length∧BI l=true∧∃t:Tr false,t.Fit∧t.Num∧t.flat 0=l∧B6 l=t.text:=by
 obtain ⟨h3,t,hf,hn,rfl,hd,hl⟩:=LM h;rw [I5 hf,IR t hf hn,if_neg (by omega),if_pos hd];exact ⟨rfl,hl,t.tree hf,t,hf,hn,rfl,rfl⟩
theorem I6 (s:List UInt8):(Dp s).length≤2*s.length+2:=by
 have:∀s:List UInt8,(s.flatMap (λc=>if c=(34:UInt8) then [34,34] else [c])).length≤2*s.length:=by
  intro s
  induction s with
  | nil=>simp
  | cons c s ih=>
   simp only [List.flatMap_cons,List.length_append,List.length_cons];by_cases h:c=34
   ·rw [if_pos h];simp only [List.length_cons,List.length_nil];omega
   ·rw [if_neg h];simp only [List.length_cons,List.length_nil];omega
 have:=this s;simp only [Dp,List.length_cons,List.length_append,List.length_nil];omega
theorem LY {r:Cn} (h:AV r=true):(Bp r).length≤r.sheet.length+10:=by
 obtain ⟨_,_,_,r0,r1⟩:=DC h;have h1:=(G0 (z:=r.row+1) (by omega) (by omega)).2.2.1;have h2:=IH r.col;have h3:=Ed r.ac;have h4:=Ed r.ar;unfold Bp
 split<;>simp only [List.length_append,List.length_cons,List.length_nil]<;>omega
theorem Ls.get {w:World} {lo:Nat} {sv:Value} {l:List Ab} (h:Ls w lo sv l) (hn:0<l.length) :
  ∃(g cap:Nat) (nvs:List NV) (sp:List Value),sv=.slice (some ⟨g,0,none⟩) l.length cap∧Blk w g (nvs.flatMap Cu++sp) 139∧nvs.map NV.node=l∧∀x∈nvs,BK w x.kv x.node.kids:=by
 obtain ⟨nvs,ho,hm,hk⟩:=h;have hl:nvs.length=l.length:=by rw [←hm];simp
 obtain ⟨g,cap,sp,rfl,hB,_⟩:=ho.get (by omega);exact ⟨g,cap,nvs,sp,by rw [hl],hB,hm,hk⟩
theorem Rq {nvs:List NV} {l:List Ab} (hm:nvs.map NV.node=l) {i:Nat} {nd:Ab} (h:l[i]?=some nd):∃kv,nvs[i]?=some ⟨nd,kv⟩:=by
 rw [←hm,List.getElem?_map] at h
 cases e:nvs[i]? with
 | none=>rw [e] at h;cases h
 | some x=>
  rw [e] at h;simp only [Option.map_some,Option.some.injEq] at h;exact ⟨x.kv,by rw [←h]⟩
theorem MF {i:Nat} {st st':List Int} {n:Ab} (h:CP i st n=some st'):n.kids.length≤st.length∧st'.length≤st.length+1:=by
 unfold CP at h
 split at h
 ·rename_i hc;simp only [Option.some.injEq] at h;subst h;exact ⟨hc.2.1,by simp⟩
 ·cases h
theorem Jb:∀(l:List Ab) (i:Nat) (st st':List Int),AR i st l=some st'→∀n∈l,n.kids.length≤st.length+l.length
 | [],_,_,_,_,_,hn=>absurd hn (by simp)
 | m::t,i,st,st',h,n,hn=>by
  rw [AR] at h
  cases e:CP i st m with
  | none=>rw [e] at h;cases h
  | some s1=>
   rw [e] at h;obtain ⟨h1,h2⟩:=MF e;rcases List.mem_cons.1 hn with rfl | hn
   ·simp;omega
   ·have:=Jb t (i+1) s1 st' h n hn;simp;omega
theorem KL {l:List Ab} (h:BI l=true):∀n∈l,n.kids.length≤l.length:=by
 unfold BI at h
 split at h
 ·rename_i st e;intro n hn;have:=Jb l 0 [] st e n hn
  simpa using this
 ·cases h
theorem Ls.row {w:World} {lo:Nat} {sv:Value} {l:List Ab} (h:Ls w lo sv l) (hl:l.length≤100000) (hk:∀n∈l,n.kids.length≤100000):Ck w sv l:=by
 refine ⟨hl,?_⟩;by_cases h0:l.length=0
 ·have a1:l=[]:=List.eq_nil_of_length_eq_zero h0;subst a1;obtain ⟨nvs,ho,hm,_⟩:=h;have a2:nvs=[]:=by simpa using hm
  subst a2;obtain ⟨_,⟨e,_⟩ | ⟨g,cap,sp,e,hB,_⟩⟩:=ho
  ·exact .inl ⟨e,rfl⟩
  ·exact .inr ⟨_,cap,e,λi nd hi=>by simp at hi⟩
 ·obtain ⟨g,cap,nvs,sp,rfl,hB,hm,a0⟩:=h.get (by omega);refine .inr ⟨_,cap,rfl,λi nd hi=>?_⟩;obtain ⟨kv,hg⟩:=Rq hm hi;refine ⟨kv,⟨by have:=hk nd (List.mem_of_getElem? hi);omega,?_⟩,λj u hu=>?_⟩
  ·rcases a0 _ (List.mem_of_getElem? hg) with ⟨e1,e2⟩ | ⟨b',cap',sp',e1,a3⟩
   ·exact .inl ⟨e1,e2⟩
   ·refine .inr ⟨_,cap',e1,λj z hz=>a3.getElem _ _ ?_⟩;rw [List.getElem?_append_left (by
     rw [AG];rcases Nat.lt_or_ge j nd.kids.length with h | h
     ·exact h
     ·rw [List.getElem?_eq_none h] at hz;cases hz)]
    exact GZ hz
  ·have hj:j<14:=by
    rcases Nat.lt_or_ge j 14 with h | h
    ·exact h
    ·rw [List.getElem?_eq_none (by rw [Ti];exact h)] at hu;cases hu
   rw [Addr.add_add];refine hB.getElem _ _ ?_;rw [JO Ti nvs sp i _ j hg hj];exact hu
theorem PE.errs {T:List Ak} {m:E7} {s:Bw} {r:FL} (h:PE T m s r):∀e,r=.err e→e=5∨e=6:=by
 induction h with
 | lev_err _ ih=>intro e he;cases he;exact ih _ rfl
 | lev_ok _ _ _ ih=>exact ih
 | loop_end _=>intro e he;cases he
 | loop_err _ _ ih=>intro e he;cases he;exact ih _ rfl
 | loop_go _ _ _ _ ih=>exact ih
 | un_prim _ _ ih=>exact ih
 | un_deep _ _=>intro e he;cases he;exact .inr rfl
 | un_err _ _ _ ih=>intro e he;cases he;exact ih _ rfl
 | un_ok _ _ _ _=>intro e he;cases he
 | pr_sign _ _=>intro e he;cases he;exact .inl rfl
 | pr_deep _ _=>intro e he;cases he;exact .inr rfl
 | pr_err _ _ _ ih=>intro e he;cases he;exact ih _ rfl
 | pr_open _ _ _ _ _=>intro e he;cases he;exact .inl rfl
 | pr_ok _ _ _ _ _=>intro e he;cases he
 | pr_end _=>intro e he;cases he;exact .inl rfl
 | pr_num _=>intro e he;cases he
 | pr_text _=>intro e he;cases he
 | pr_dead _=>intro e he;cases he
 | pr_ref _ _=>intro e he;cases he
 | pr_range _ _ _ _=>intro e he;cases he
 | pr_norange _ _ _=>intro e he;cases he;exact .inl rfl
 | pr_true _ _=>intro e he;cases he
 | pr_false _ _=>intro e he;cases he
 | pr_nocall _ _ _ _=>intro e he;cases he;exact .inl rfl
 | pr_calldeep _ _ _ _ _=>intro e he;cases he;exact .inr rfl
 | pr_call0 _ _ _ _ _ _=>intro e he;cases he
 | pr_call _ _ _ _ _ _ _ ih=>exact ih
 | ar_err _ ih=>intro e he;cases he;exact ih _ rfl
 | ar_go _ _ _ _ ih=>exact ih
 | ar_open _ _ _ _=>intro e he;cases he;exact .inl rfl
 | ar_end _ _ _ _=>intro e he;cases he
theorem Tr.cnt_le:∀{b:Bool} (t:Tr b),t.Fit→t.Num→t.cnt≤W t.toks
 | _,.leaf n,hf,hn=>by
  obtain ⟨u,m,e,hk,_⟩:=Fe hf.1 hf.2.1;have hc:=(IC ((Tr.leaf n).can hf hn u (by show u∈BH n;rw [e];simp))).1;show 1≤W (BH n);rw [e,Cs];have:=List.length_pos_iff.2 hc
  omega
 | _,.neg a,hf,hn=>by
  have ha:=cnt_le a hf (λu hu=>hn u (by simp only [Tr.toks];exact List.mem_cons_of_mem _ (Bv hu)));simp only [Tr.cnt,Tr.toks,Cs,Sk,J5,List.length_cons,List.length_nil]
  omega
 | _,.two o a b,hf,hn=>by
  have ha:=cnt_le a hf.2.2.1 (λu hu=>hn u (by simp only [Tr.toks];exact List.mem_append_left _ (Bv hu)));have hb:=cnt_le b hf.2.2.2 (λu hu=>hn u (by simp only [Tr.toks];exact List.mem_append_right _ (List.mem_cons_of_mem _ (Bv hu))));have hs:=List.length_pos_iff.2 (HZ _ (GC hf.1 hf.2.1)).1;simp only [Tr.cnt,Tr.toks,H3,Cs,Sk,J5]
  omega
 | _,.call x .nil,hf,hn=>by
  simp only [Tr.cnt,Tr.toks,Cs,J5,List.length_cons,List.length_nil]
  omega
 | _,.call x (.snoc rs a),hf,hn=>by
  have hr:=cnt_le rs hf.2.1 (λu hu=>hn u (by simp only [Tr.toks];simp [hu]));have ha:=cnt_le a hf.2.2 (λu hu=>hn u (by simp only [Tr.toks];simp [hu]));simp only [Tr.cnt,Tr.toks,Cs,H3,J5,List.length_cons,List.length_nil]
  omega
 | _,.nil,_,_=>Nat.zero_le _
 | _,.snoc rs a,hf,hn=>by
  have hr:=cnt_le rs hf.1 (λu hu=>hn u (by simp only [Tr.toks];simp [hu]));have ha:=cnt_le a hf.2 (λu hu=>hn u (by simp only [Tr.toks];simp [hu]));simp only [Tr.cnt,Tr.toks,H3];omega
def V0 (s:List UInt8) (l:List Ab) (e:Int):Prop:=AM s=.ok l∧e=0∨AM s=.error e∧l=[]∧(e=4∨e=5∨e=6)
theorem M8 {s:List UInt8} {l:List Ab} (h:AM s=.ok l):Dw l:=by
 unfold AM at h
 split at h
 ·cases h
 ·rename_i h1
  split at h
  ·cases h
  ·rename_i T e
   split at h
   ·rename_i hx;have hp:=hx.choose_spec;rw [h] at hp;exact (CQ.tree (Uu (by omega) e) hp).2
   ·cases h
theorem Gd {s:List UInt8} {l:List Ab} (h:AM s=.ok l):s.length≤300∧BI l=true∧Dw l∧l.length≤300∧∀n∈l,n.kids.length≤300:=by
 obtain ⟨h3,t,hf,hn,rfl,hd,hl⟩:=LM h;have ht:=t.tree hf;have hc:=t.cnt_le hf hn;have a0:(t.flat 0).length≤300:=by
  rw [Tr.flat_len];have:W t.toks=t.text.length:=rfl;omega
 exact ⟨h3,ht,M8 h,a0,λn hm=>Nat.le_trans (KL ht n hm) a0⟩
theorem V0.facts {s:List UInt8} {l:List Ab} {e:Int} (h:V0 s l e):Dw l∧l.length≤300∧(∀n∈l,n.kids.length≤300)∧BI l=decide (e=0)∧0≤e∧e≤6:=by
 rcases h with ⟨h,rfl⟩ | ⟨h,rfl,he⟩
 ·obtain ⟨_,h1,h2,h3,h4⟩:=Gd h;exact ⟨h2,h3,h4,by rw [h1];rfl,by omega,by omega⟩
 ·refine ⟨λn hn=>(List.not_mem_nil hn).elim,by simp,λn hn=>(List.not_mem_nil hn).elim,?_,by omega,by omega⟩;have:BI []=false:=rfl;rw [this];simp;omega
theorem Kr (w:World):Ck w (.slice none 0 0) []:=⟨by simp,.inl ⟨rfl,rfl⟩⟩
theorem Df.both {s:List UInt8} {v:Value} {w:World} {lo:Nat} (h:Df s v w lo):∃l e sv,v=.tuple #[sv,.int .i64 e]∧Ck w sv l∧V0 s l e:=by
 have hr:=h.res
 cases hp:AM s with
 | ok l=>
  rw [hp] at hr;obtain ⟨sv,rfl,hn⟩:=hr;obtain ⟨_,h1,h2,h3,h4⟩:=Gd hp
  exact ⟨l,0,sv,rfl,hn.row (by omega) (λn hm=>by have:=h4 n hm;omega),.inl ⟨hp,rfl⟩⟩
 | error e=>
  rw [hp] at hr;refine ⟨[],e,_,hr,Kr w,.inr ⟨hp,rfl,?_⟩⟩;unfold Df at h;by_cases h1:300<s.length
  ·have:AM s=.error 4:=by unfold AM;rw [if_pos h1]
   rw [this] at hp;simp only [Except.error.injEq] at hp;omega
  ·rw [if_neg h1] at h
   cases hl:He s with
   | none=>
    have:AM s=.error 5:=by unfold AM;rw [if_neg h1,hl]
    rw [this] at hp;simp only [Except.error.injEq] at hp
    omega
   | some T=>
    rw [hl] at h;obtain ⟨o,a0,_⟩:=h;have:=I3 (by omega) hl a0;rw [hp] at this;subst this;rcases a0 with h | ⟨h,_⟩
    ·have:=h.errs _ rfl;omega
    ·omega
def D3 (l:List Ab) (o:Nat) {b:Bool} (t:Tr b):Prop:=∃suf,l.drop o=t.flat o++suf
theorem Is {l:List Ab} {o n:Nat} {x y:List Ab} (h:l.drop o=x++y) (hn:x.length=n):l.drop (o+n)=y:=by
 rw [←List.drop_drop,h,←hn,List.drop_left]
theorem D3.node {l:List Ab} {o:Nat} {t:Tr false} (h:D3 l o t):l[o+t.cnt - 1]?=some (Da o t):=by
 obtain ⟨suf,h⟩:=h;rw [C8,List.append_assoc] at h;have hb:=Sy o t;have e:=Is h rfl;have e2:o+t.cnt - 1=o+(Nd o t).length:=by omega
 have:=congrArg List.head? e;rw [e2,←List.head?_drop,this];rfl
theorem D3.neg {l:List Ab} {o:Nat} {a:Tr false} (h:D3 l o (.neg a)):D3 l o a:=by
 obtain ⟨suf,h⟩:=h;simp only [Tr.flat,List.append_assoc] at h;exact ⟨_,h⟩
theorem D3.two {l:List Ab} {o:Nat} {k:Int} {a b:Tr false} (h:D3 l o (.two k a b)):D3 l o a∧D3 l (o+a.cnt) b:=by
 obtain ⟨suf,h⟩:=h;simp only [Tr.flat,List.append_assoc] at h;exact ⟨⟨_,h⟩,_,Is h (a.flat_len o)⟩
theorem D3.call {l:List Ab} {o:Nat} {x:List UInt8} {ks:Tr true} (h:D3 l o (.call x ks)):D3 l o ks:=by
 obtain ⟨suf,h⟩:=h;simp only [Tr.flat,List.append_assoc] at h;exact ⟨_,h⟩
theorem D3.snoc {l:List Ab} {o:Nat} {ks:Tr true} {a:Tr false} (h:D3 l o (.snoc ks a)):D3 l o ks∧D3 l (o+ks.cnt) a:=by
 obtain ⟨suf,h⟩:=h;simp only [Tr.flat,List.append_assoc] at h;exact ⟨⟨_,h⟩,_,Is h (ks.flat_len o)⟩
theorem D3.whole (t:Tr false):D3 (t.flat 0) 0 t:=⟨[],by simp⟩
def Tr.row (o:Nat):{b:Bool}→Tr b→List (Nat×Tr false)
 | _,.snoc ks a=>ks.row o++[(o+ks.cnt,a)]
 | _,_=>[]
theorem Oe (o:Nat):∀(ks:Tr true),ks.kids o=(ks.row o).map (λx=>((x.1+x.2.cnt - 1:Nat):Int))
 | .nil=>rfl
 | .snoc rs a=>by simp [Tr.kids,Tr.row,Oe o rs]
theorem Tr.cnt_pos (t:Tr false):0<t.cnt:=by cases t<;>simp [Tr.cnt]
theorem LT (rs:Tr true) (a:Tr false):(Tr.snoc rs a).text=rs.text++(a.text++[44]):=by
 simp only [Tr.text,Tr.toks,List.flatMap_append,List.flatMap_cons,List.flatMap_nil,Cx,List.append_nil]
theorem Mb (x:List UInt8):Bi ⟨3,x,0,AF,0⟩=x:=rfl
theorem L0 (x:List UInt8) (rs:Tr true) (a:Tr false):(Tr.call x (.snoc rs a)).text=x++([40]++(rs.text++(a.text++[41]))):=by
 simp only [Tr.text,Tr.toks,List.flatMap_append,List.flatMap_cons,List.flatMap_nil,Cx,Mb,List.append_nil]
theorem Qt {l:List Ab} {o:Nat}:∀(ks:Tr true),ks.Fit→ks.Num→D3 l o ks→∀x∈ks.row o,D3 l x.1 x.2∧x.2.Fit∧x.2.Num∧x.2.cnt≤ks.cnt∧x.2.text.length≤ks.text.length
 | .nil,_,_,_,x,hx=>by cases hx
 | .snoc rs a,hf,hn,h,x,hx=>by
  have hnr:rs.Num:=λu hu=>hn u (by simp only [Tr.toks];simp [hu]);have hna:a.Num:=λu hu=>hn u (by simp only [Tr.toks];simp [hu]);have htx:(Tr.snoc rs a).text.length=rs.text.length+a.text.length+1:=by rw [LT];simp only [List.length_append,List.length_cons,List.length_nil];omega
  simp only [Tr.row,List.mem_append,List.mem_singleton] at hx;rcases hx with hx | rfl
  ·obtain ⟨h1,h2,h3,h4,h5⟩:=Qt rs hf.1 hnr h.snoc.1 x hx;exact ⟨h1,h2,h3,by simp only [Tr.cnt];omega,by omega⟩
  ·exact ⟨h.snoc.2,hf.2,hna,by simp [Tr.cnt],by simp only;omega⟩
def GG (b:Bool) (s:List UInt8):List UInt8:=if b then [40]++s++[41] else s
theorem Nf (b:Bool) (l:List Ak):(brk b l).flatMap Bi=GG b (l.flatMap Bi):=by
 unfold brk GG
 split<;>simp [Cx]
theorem NH (a:Tr false):(Tr.neg a).text=[45]++GG (decide (a.rank<5)) a.text:=by
 simp [Tr.text,Tr.toks,Cx,Nf]
theorem Oy (k:Int) (a b:Tr false):(Tr.two k a b).text=GG (decide (a.rank<Cq k)) a.text++E4 k++GG (decide (b.rank<Cq k+1)) b.text:=by
 simp [Tr.text,Tr.toks,Cx,Nf]
def Pp (r:List (Nat×Tr false)):List UInt8:=r.flatMap (λx=>x.2.text++[44])
theorem Of (o:Nat):∀(ks:Tr true),ks.text=Pp (ks.row o)
 | .nil=>rfl
 | .snoc rs a=>by
  have ih:=Of o rs;simp only [Tr.text] at ih;simp [Tr.text,Tr.toks,Tr.row,Pp,ih,Cx]
def Jl (r:List (Nat×Tr false)):Nat→List UInt8
 | 0=>[]
 | i+1=>Pp (r.take i)++(match r[i]? with
  | some x=>x.2.text
  | none=>[])
theorem RE {r:List (Nat×Tr false)} {i:Nat} {x:Nat×Tr false} (h:r[i]?=some x):Pp (r.take (i+1))=Pp (r.take i)++x.2.text++[44]:=by
 rw [List.take_add_one,h];simp [Pp]
theorem LQ {r:List (Nat×Tr false)} {i:Nat} {x:Nat×Tr false} (h:r[i]?=some x):Jl r (i+1)=Jl r i++(if 0<i then [44] else [])++x.2.text:=by
 cases i with
 | zero=>simp [Jl,h,Pp]
 | succ j=>
  have hj:j<r.length:=by
   rcases Nat.lt_or_ge j r.length with h' | h'
   ·exact h'
   ·rw [List.getElem?_eq_none (by omega)] at h;cases h
  have hy:r[j]?=some r[j]:=List.getElem?_eq_getElem hj;simp only [Jl,h,hy,RE hy];simp
theorem L1 (x:List UInt8) (o:Nat) (ks:Tr true):(Tr.call x ks).text=x++[40]++Jl (ks.row o) (ks.row o).length++[41]:=by
 rcases ks.snoc_form with rfl | ⟨rs,a,rfl⟩
 ·simp [Tr.text,Tr.toks,Cx,Mb,Tr.row,Jl]
 ·have hr:=Of o rs;have hl:(rs.row o++[(o+rs.cnt,a)]).length=(rs.row o).length+1:=by simp
  simp only [Tr.row,hl,Jl];rw [L0,hr];simp
theorem LE {n:Ab} (hp:A3 n=true) (h0:1≤n.kind) (h1:n.kind≤6):(Tr.leaf n).text=if n.kind=1 then Lib.itoa n.num else if n.kind=2 then Dp n.text else if n.kind=3 then (if n.num=1 then Db else C3) else if n.kind=4 then GM else if n.kind=5 then CG n.ref else CG n.ref++[58]++CG n.to:=by
 have ho:=DP hp;have:n.kind=1∨n.kind=2∨n.kind=3∨n.kind=4∨n.kind=5∨n.kind=6:=by omega
 rcases this with h | h | h | h | h | h<;>simp only [G6,h,if_true,if_false,Int.reduceEq,Bool.and_eq_true,decide_eq_true_eq] at ho<;>simp [Tr.text,Tr.toks,BH,h,Bi,sg]
 ·rw [CG,if_pos ho]
 ·rw [CG,CG,if_pos ho.1,if_pos ho.2.1]
theorem RD (o:Nat) (t:Tr false) (hf:t.Fit):Cq (Da o t).kind=t.rank:=by
 cases t with
 | leaf n=>
  have h0:=hf.1;have h1:=hf.2.1;show Cq n.kind=6;unfold Cq
  rw [if_neg (by omega),if_neg (by omega),if_neg (by omega),if_neg (by omega),if_neg (by omega)]
 | neg a=>rfl
 | two k a b=>rfl
 | call x ks=>rfl
theorem S2 (b:Bool) (s:List UInt8):s.length≤(GG b s).length∧(GG b s).length≤s.length+2:=by
 unfold GG
 split
 ·simp only [List.length_append,List.length_cons,List.length_nil];omega
 ·omega
theorem I8 {r:List (Nat×Tr false)} (i:Nat):∀k,i+k≤r.length→(Jl r i).length≤(Jl r (i+k)).length
 | 0,_=>Nat.le_refl _
 | k+1,h=>by
  have ih:=I8 (r:=r) i k (by omega);have hlt:i+k<r.length:=by omega
  have hx:r[i+k]?=some r[i+k]:=List.getElem?_eq_getElem hlt;have e:=congrArg List.length (LQ hx);simp only [List.length_append] at e;rw [←Nat.add_assoc,e];omega
theorem S3 {x:List UInt8} {ks:Tr true} (h:(Tr.call x ks).Num):ks.Num:=by
 rcases ks.snoc_form with rfl | ⟨rs,a,rfl⟩
 ·intro u hu;cases hu
 ·intro u hu;simp only [Tr.toks,List.mem_append,List.mem_cons,List.not_mem_nil,or_false] at hu;rcases hu with hu | hu | rfl
  ·exact h u (by simp only [Tr.toks];simp [hu])
  ·exact h u (by simp only [Tr.toks];simp [hu])
  ·simp [sg]
theorem Tr.num_of:∀{b:Bool} (t:Tr b) (o:Nat),t.Fit→(∀n∈t.flat o,n.num≤9223372036854775807)→t.Num
 | _,.leaf n,o,hf,hs=>by
  have hx:=hs n (by simp [Tr.flat]);intro u hu;have h0:=hf.1;have h1:=hf.2.1;have:n.kind=1∨n.kind=2∨n.kind=3∨n.kind=4∨n.kind=5∨n.kind=6:=by omega
  rcases this with h | h | h | h | h | h<;>simp only [Tr.toks,BH,h,if_true,if_false,Int.reduceEq,List.mem_cons,List.not_mem_nil,or_false] at hu
  ·subst hu;exact hx
  ·subst hu;simp
  ·subst hu;simp
  ·subst hu;simp
  ·subst hu;simp
  ·rcases hu with rfl | rfl | rfl<;>simp [sg]
 | _,.neg a,o,hf,hs=>by
  have ha:=num_of a o hf (λn hm=>hs n (by simp only [Tr.flat];simp [hm]));intro u hu;simp only [Tr.toks,List.mem_cons] at hu;rcases hu with rfl | hu
  ·simp [sg]
  ·rcases Eb hu with hu | rfl | rfl
   ·exact ha u hu
   ·simp [sg]
   ·simp [sg]
 | _,.two k a b,o,hf,hs=>by
  have ha:=num_of a o hf.2.2.1 (λn hm=>hs n (by simp only [Tr.flat];simp [hm]));have hb:=num_of b (o+a.cnt) hf.2.2.2 (λn hm=>hs n (by simp only [Tr.flat];simp [hm]));intro u hu;simp only [Tr.toks,List.mem_append,List.mem_cons] at hu;rcases hu with hu | rfl | hu
  ·rcases Eb hu with hu | rfl | rfl
   ·exact ha u hu
   ·simp [sg]
   ·simp [sg]
  ·simp [sg]
  ·rcases Eb hu with hu | rfl | rfl
   ·exact hb u hu
   ·simp [sg]
   ·simp [sg]
 | _,.call x .nil,o,hf,hs=>by
  intro u hu;simp only [Tr.toks,List.mem_cons,List.not_mem_nil,or_false] at hu
  rcases hu with rfl | rfl | rfl<;>simp [sg]
 | _,.call x (.snoc rs a),o,hf,hs=>by
  have hr:=num_of rs o hf.2.1 (λn hm=>hs n (by simp only [Tr.flat];simp [hm]));have ha:=num_of a (o+rs.cnt) hf.2.2 (λn hm=>hs n (by simp only [Tr.flat];simp [hm]));intro u hu;simp only [Tr.toks,List.mem_cons,List.mem_append,List.not_mem_nil,or_false] at hu;rcases hu with rfl | rfl | hu | hu | rfl
  ·simp
  ·simp [sg]
  ·exact hr u hu
  ·exact ha u hu
  ·simp [sg]
 | _,.nil,o,_,_=>λu hu=>by cases hu
 | _,.snoc rs a,o,hf,hs=>by
  have hr:=num_of rs o hf.1 (λn hm=>hs n (by simp only [Tr.flat];simp [hm]));have ha:=num_of a (o+rs.cnt) hf.2 (λn hm=>hs n (by simp only [Tr.flat];simp [hm]));intro u hu;simp only [Tr.toks,List.mem_append,List.mem_cons,List.not_mem_nil,or_false] at hu;rcases hu with hu | hu | rfl
  ·exact hr u hu
  ·exact ha u hu
  ·simp [sg]
theorem Tr.len_le:∀{b:Bool} (t:Tr b) (o:Nat),t.Fit→t.Num→(∀n∈t.flat o,n.text.length≤1000)→t.text.length+cond b 0 1≤4000*t.cnt
 | _,.leaf n,o,hf,hn,hs=>by
  have hx:=hs n (by simp [Tr.flat]);have hc:=(Tr.leaf n).can hf hn;obtain ⟨h0,h1,hk,hp⟩:=hf;have ho:=DP hp;have hq:=I6 n.text;rw [LE hp h0 h1];have htb:∀r:Cn,AV r=true→(CG r).length≤30:=λr hm=>by
   have h2:=LY hm;have h3:=(DC hm).1;rw [CG,if_pos hm];rcases h3 with h3 | h3
   ·rw [h3] at h2;simp at h2;omega
   ·have:=(Hm h3).2.1;omega
  show _+1≤_;simp only [Tr.cnt];have:n.kind=1∨n.kind=2∨n.kind=3∨n.kind=4∨n.kind=5∨n.kind=6:=by omega
  rcases this with h | h | h | h | h | h<;>simp only [G6,h,if_true,if_false,Int.reduceEq,Bool.and_eq_true,decide_eq_true_eq] at ho ⊢
  ·have:=Lib.itoa_length_le n.num (by omega) (hn ⟨1,[],n.num,AF,0⟩ (by simp [Tr.toks,BH,h]));omega
  ·omega
  ·split<;>simp [Db,C3]
  ·simp [GM]
  ·have:=htb _ ho;omega
  ·have:=htb _ ho.1;have:=htb _ ho.2.1
   simp only [List.length_append,List.length_cons,List.length_nil];omega
 | _,.neg a,o,hf,hn,hs=>by
  have ha:a.text.length+1≤_:=len_le a o hf (λu hu=>hn u (by simp only [Tr.toks];exact List.mem_cons_of_mem _ (Bv hu))) (λn hm=>hs n (by simp only [Tr.flat];simp [hm]));show _+1≤_;rw [NH];simp only [Tr.cnt,GG]
  split<;>simp only [List.length_append,List.length_cons,List.length_nil]<;>omega
 | _,.two k a b,o,hf,hn,hs=>by
  have ha:a.text.length+1≤_:=len_le a o hf.2.2.1 (λu hu=>hn u (by simp only [Tr.toks];exact List.mem_append_left _ (Bv hu))) (λn hm=>hs n (by simp only [Tr.flat];simp [hm]));have hb:b.text.length+1≤_:=len_le b (o+a.cnt) hf.2.2.2 (λu hu=>hn u (by simp only [Tr.toks];exact List.mem_append_right _ (List.mem_cons_of_mem _ (Bv hu)))) (λn hm=>hs n (by simp only [Tr.flat];simp [hm]));have a0:∀s∈AN,s.length≤2:=by decide
  have h2:=a0 _ (GC hf.1 hf.2.1);show _+1≤_;rw [Oy];simp only [Tr.cnt,GG]
  split<;>split<;>simp only [List.length_append,List.length_cons,List.length_nil]<;>omega
 | _,.call x .nil,o,hf,hn,hs=>by
  have hx:x.length≤1000:=hs {kind:=7,text:=x,kids:=Tr.nil.kids o} (by simp [Tr.flat]);show _+1≤_;rw [L1 x o];simp only [Tr.cnt,Tr.row,Jl,List.length_append,List.length_cons,List.length_nil]
  omega
 | _,.call x (.snoc rs a),o,hf,hn,hs=>by
  have hx:x.length≤1000:=hs {kind:=7,text:=x,kids:=(Tr.snoc rs a).kids o} (by simp [Tr.flat]);have hr:rs.text.length+0≤_:=len_le rs o hf.2.1 (λu hu=>hn u (by simp only [Tr.toks];simp [hu])) (λn hm=>hs n (by simp only [Tr.flat];simp [hm]));have ha:a.text.length+1≤_:=len_le a (o+rs.cnt) hf.2.2 (λu hu=>hn u (by simp only [Tr.toks];simp [hu])) (λn hm=>hs n (by simp only [Tr.flat];simp [hm]));have e:(Tr.call x (.snoc rs a)).text.length=x.length+1+(rs.text.length+(a.text.length+1)):=by
   rw [L0];simp only [List.length_append,List.length_cons,List.length_nil];omega
  show _+1≤_;rw [e];simp only [Tr.cnt]
  omega
 | _,.nil,o,_,_,_=>by show _+0≤_;simp [Tr.text,Tr.toks]
 | _,.snoc rs a,o,hf,hn,hs=>by
  have hr:rs.text.length+0≤_:=len_le rs o hf.1 (λu hu=>hn u (by simp only [Tr.toks];simp [hu])) (λn hm=>hs n (by simp only [Tr.flat];simp [hm]));have ha:a.text.length+1≤_:=len_le a (o+rs.cnt) hf.2 (λu hu=>hn u (by simp only [Tr.toks];simp [hu])) (λn hm=>hs n (by simp only [Tr.flat];simp [hm]));have hp:=a.cnt_pos;have e:(Tr.snoc rs a).text.length=rs.text.length+a.text.length+1:=by rw [LT];simp only [List.length_append,List.length_cons,List.length_nil];omega
  show _+0≤_;rw [e];simp only [Tr.cnt];omega
def Hx (l:List Ab):Prop:=∀t:Tr false,t.Fit→t.flat 0=l→t.Num
theorem Th {l:List Ab} (h:∀n∈l,n.num≤9223372036854775807):Hx l:=λt hf e=>t.num_of 0 hf (by rw [e];exact h)
theorem V0.num {s:List UInt8} {l:List Ab} {e:Int} (h:V0 s l e):Hx l:=by
 intro t hf et;rcases h with ⟨h,rfl⟩ | ⟨_,rfl,_⟩
 ·obtain ⟨_,_,_,u,hu,hn,e1,_⟩:=IV h;have:=Tr.inj t u hf hu [] [] (by simpa using et.trans e1.symm) (.inl rfl);rw [this.1];exact hn
 ·have:=t.flat_len 0;rw [et] at this;have:=t.cnt_pos;simp at *;omega
end Go.Proofs.YtefaigjfkddelaaGreatDoor
