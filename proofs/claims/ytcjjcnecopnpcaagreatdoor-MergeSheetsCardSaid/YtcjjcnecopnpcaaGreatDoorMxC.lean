/-
  Joined by program out of the texts TreeP ShowP ShowQ ShowR ShowS ShowT NodesM ShowU.
-/
import Derived.Test.YtcjjcnecopnpcaaGreatDoorMxB
import Derived.Test.YtcjjcnecopnpcaaGreatDoorMxE
namespace Go.Proofs.YtcjjcnecopnpcaaGreatDoor
open Tryz
open Go Go.E
def BB(T:List Ap):Nat→FQ→Ch→Option HG
 | 0,_,_=>none
 | n+1,.lev k,s=>match BB T n (below k) s with
  | some (.ok s1 a)=>BB T n (.loop k a) s1
  | some (.err e)=>some (.err e)
  | none=>none
 | n+1,.loop k a,s=>match IV T s k with
  | none=>some (.ok s a)
  | some i=>match BB T n (below k) (Ax s) with
   | some (.ok s1 b)=>BB T n (.loop k s1.out.length) (BS s1 {kind:=(AL k).getD i 0,kids:=[(a:Int),(b:Int)]})
   | some (.err e)=>some (.err e)
   | none=>none
 | n+1,.unary,s=>if Cu T s [45]=true then(if 12≤s.deep then some (.err 6) else match BB T n .unary (Az (Ax s)) with
   | some (.ok s1 a)=>some (.ok (BS (CE s1) {kind:=8,kids:=[(a:Int)]}) s1.out.length)
   | some (.err e)=>some (.err e)
   | none=>none) else BB T n .prim s
 | n+1,.prim,s=>
  if (Ad T s).kind=5 then
   if Cu T s [40]=true then(if 12≤s.deep then some (.err 6) else match BB T n (.lev 0) (Az (Ax s)) with
    | some (.ok s1 a)=>if Cu T s1 [41]=true then some (.ok (CE (Ax s1)) a) else some (.err 5)
    | some (.err e)=>some (.err e)
    | none=>none)
   else some (.err 5)
  else if (Ad T s).kind=0 then some (.err 5)
  else if (Ad T s).kind=1 then some (.ok (BS (Ax s) {kind:=1,num:=(Ad T s).num}) s.out.length)
  else if (Ad T s).kind=2 then some (.ok (BS (Ax s) {kind:=2,text:=(Ad T s).text}) s.out.length)
  else if (Ad T s).kind=6 then some (.ok (BS (Ax s) {kind:=4}) s.out.length)
  else if (Ad T s).kind=4 then
   if Cu T (Ax s) [58]=true then
    if (Ad T (Ax (Ax s))).kind=4∧BL (Ad T s).ref (Ad T (Ax (Ax s))).ref=true then some (.ok (BS (Ax (Ax (Ax s))) {kind:=6,ref:=(Ad T s).ref,to:=(Ad T (Ax (Ax s))).ref}) s.out.length)
    else some (.err 5)
   else some (.ok (BS (Ax s) {kind:=5,ref:=(Ad T s).ref}) s.out.length)
  else if (Ad T s).kind=3 then
   if (Ad T s).text=DR then some (.ok (BS (Ax s) {kind:=3,num:=1}) s.out.length)
   else if (Ad T s).text=Dm then some (.ok (BS (Ax s) {kind:=3}) s.out.length)
   else if Cu T (Ax s) [40]=true then
    if 12≤s.deep then some (.err 6)
    else if Cu T (Az (Ax (Ax s))) [41]=true then some (.ok (BS (CE (Ax (Az (Ax (Ax s))))) {kind:=7,text:=(Ad T s).text}) s.out.length)
    else BB T n (.args (Ad T s).text []) (Az (Ax (Ax s)))
   else some (.err 5)
  else none
 | n+1,.args x ks,s=>match BB T n (.lev 0) s with
  | some (.ok s1 a)=>if Cu T s1 [44]=true then BB T n (.args x (ks++[(a:Int)])) (Ax s1)
   else if Cu T s1 [41]=true then some (.ok (BS (CE (Ax s1)) {kind:=7,text:=x,kids:=ks++[(a:Int)]}) s1.out.length)
   else some (.err 5)
  | some (.err e)=>some (.err e)
  | none=>none
theorem Pu{T:List Ap}{s:Ch}{x:List UInt8}(h:Cu T s x=true):(Ad T s).kind=5:=by
 simp[Cu] at h;exact h.1
theorem ZY{T:List Ap}{s:Ch}{x:List UInt8}(h2:(Ad T s).text≠x):Cu T s x=false:=by
 simp[Cu,h2]
theorem PE.eval{T:List Ap}{m:FQ}{s:Ch}{r:HG}(h:PE T m s r):∃N,∀n,N≤n→BB T n m s=some r:=by
 induction h with
 | lev_err _ ih=>
  obtain⟨N,ih⟩:=ih;refine⟨N+1,λn hn=>?_⟩;obtain⟨n,rfl⟩:∃k,n=k+1:=⟨n - 1,by omega⟩
  simp only[BB,ih n AdE]
 | lev_ok _ _ ih1 ih2=>
  obtain⟨N,ih1⟩:=ih1;obtain⟨M,ih2⟩:=ih2;refine⟨N+M+1,λn hn=>?_⟩;obtain⟨n,rfl⟩:∃k,n=k+1:=⟨n - 1,by omega⟩
  simp only[BB,ih1 n AdE,ih2 n AdE]
 | loop_end h=>
  refine⟨1,λn hn=>?_⟩;obtain⟨n,rfl⟩:∃k,n=k+1:=⟨n - 1,by omega⟩
  simp only[BB,h]
 | loop_err h _ ih=>
  obtain⟨N,ih⟩:=ih;refine⟨N+1,λn hn=>?_⟩;obtain⟨n,rfl⟩:∃k,n=k+1:=⟨n - 1,by omega⟩
  simp only[BB,h,ih n AdE]
 | loop_go h _ _ ih1 ih2=>
  obtain⟨N,ih1⟩:=ih1;obtain⟨M,ih2⟩:=ih2;refine⟨N+M+1,λn hn=>?_⟩;obtain⟨n,rfl⟩:∃k,n=k+1:=⟨n - 1,by omega⟩
  simp only[BB,h,ih1 n AdE,ih2 n AdE]
 | un_prim h _ ih=>
  obtain⟨N,ih⟩:=ih;refine⟨N+1,λn hn=>?_⟩;obtain⟨n,rfl⟩:∃k,n=k+1:=⟨n - 1,by omega⟩
  simp only[BB,h,ih n AdE,Ab9,if_false]
 | un_deep h hd=>
  refine⟨1,λn hn=>?_⟩;obtain⟨n,rfl⟩:∃k,n=k+1:=⟨n - 1,by omega⟩
  simp only[BB,h,hd,if_true]
 | un_err h hd _ ih=>
  obtain⟨N,ih⟩:=ih;refine⟨N+1,λn hn=>?_⟩;obtain⟨n,rfl⟩:∃k,n=k+1:=⟨n - 1,by omega⟩
  simp only[BB,h,ih n AdE,if_true,Adj.2 hd,if_false]
 | un_ok h hd _ ih=>
  obtain⟨N,ih⟩:=ih;refine⟨N+1,λn hn=>?_⟩;obtain⟨n,rfl⟩:∃k,n=k+1:=⟨n - 1,by omega⟩
  simp only[BB,h,ih n AdE,if_true,Adj.2 hd,if_false]
 | pr_sign h h2=>
  refine⟨1,λn hn=>?_⟩;obtain⟨n,rfl⟩:∃k,n=k+1:=⟨n - 1,by omega⟩
  simp only[BB,h,if_true,ZY h2,Ab9,if_false]
 | pr_deep h hd=>
  refine⟨1,λn hn=>?_⟩;obtain⟨n,rfl⟩:∃k,n=k+1:=⟨n - 1,by omega⟩
  simp only[BB,Pu h,h,hd,if_true]
 | pr_err h hd _ ih=>
  obtain⟨N,ih⟩:=ih;refine⟨N+1,λn hn=>?_⟩;obtain⟨n,rfl⟩:∃k,n=k+1:=⟨n - 1,by omega⟩
  simp only[BB,Pu h,h,ih n AdE,if_true,Adj.2 hd,if_false]
 | pr_open h hd _ h2 ih=>
  obtain⟨N,ih⟩:=ih;refine⟨N+1,λn hn=>?_⟩;obtain⟨n,rfl⟩:∃k,n=k+1:=⟨n - 1,by omega⟩
  simp only[BB,Pu h,h,ih n AdE,if_true,Adj.2 hd,if_false,h2,Ab9]
 | pr_ok h hd _ h2 ih=>
  obtain⟨N,ih⟩:=ih;refine⟨N+1,λn hn=>?_⟩;obtain⟨n,rfl⟩:∃k,n=k+1:=⟨n - 1,by omega⟩
  simp only[BB,Pu h,h,ih n AdE,if_true,Adj.2 hd,if_false,h2]
 | pr_end h | pr_num h | pr_text h | pr_dead h=>
  refine⟨1,λn hn=>?_⟩;obtain⟨n,rfl⟩:∃k,n=k+1:=⟨n - 1,by omega⟩
  simp[BB,h]
 | pr_ref h h2 | pr_true h h2 | pr_false h h2=>
  refine⟨1,λn hn=>?_⟩;obtain⟨n,rfl⟩:∃k,n=k+1:=⟨n - 1,by omega⟩
  simp[BB,h,h2,DR,Dm]
 | pr_norange h h2 h3=>
  refine⟨1,λn hn=>?_⟩;obtain⟨n,rfl⟩:∃k,n=k+1:=⟨n - 1,by omega⟩;have h4:¬((Ad T (Ax (Ax _))).kind=4∧BL (Ad T _).ref (Ad T (Ax (Ax _))).ref=true):=λhh=>by
   rcases h3 with h3 | h3
   ·exact h3 hh.1
   ·rw[hh.2] at h3;cases h3
  simp only[BB,h,h2,if_neg h4]
  rfl
 | pr_range h h2 h3 h4=>
  refine⟨1,λn hn=>?_⟩;obtain⟨n,rfl⟩:∃k,n=k+1:=⟨n - 1,by omega⟩
  simp[BB,h,h2,h3,h4]
 | pr_nocall h h2 h3 h4=>
  refine⟨1,λn hn=>?_⟩;obtain⟨n,rfl⟩:∃k,n=k+1:=⟨n - 1,by omega⟩
  simp[BB,h,h2,h3,h4]
 | pr_calldeep h h2 h3 h4 h5=>
  refine⟨1,λn hn=>?_⟩;obtain⟨n,rfl⟩:∃k,n=k+1:=⟨n - 1,by omega⟩
  simp[BB,h,h2,h3,h4,h5]
 | pr_call0 h h2 h3 h4 h5 h6=>
  refine⟨1,λn hn=>?_⟩;obtain⟨n,rfl⟩:∃k,n=k+1:=⟨n - 1,by omega⟩
  simp[BB,h,h2,h3,h4,Adj.2 h5,h6]
 | pr_call h h2 h3 h4 h5 h6 _ ih=>
  obtain⟨N,ih⟩:=ih;refine⟨N+1,λn hn=>?_⟩;obtain⟨n,rfl⟩:∃k,n=k+1:=⟨n - 1,by omega⟩;have:=ih n AdE
  simp[BB,h,h2,h3,h4,Adj.2 h5,h6,this]
 | ar_err _ ih=>
  obtain⟨N,ih⟩:=ih;refine⟨N+1,λn hn=>?_⟩;obtain⟨n,rfl⟩:∃k,n=k+1:=⟨n - 1,by omega⟩
  simp only[BB,ih n AdE]
 | ar_go _ h _ ih1 ih2=>
  obtain⟨N,ih1⟩:=ih1;obtain⟨M,ih2⟩:=ih2;refine⟨N+M+1,λn hn=>?_⟩;obtain⟨n,rfl⟩:∃k,n=k+1:=⟨n - 1,by omega⟩
  simp only[BB,ih1 n AdE,h,if_true,ih2 n AdE]
 | ar_open _ h h2 ih=>
  obtain⟨N,ih⟩:=ih;refine⟨N+1,λn hn=>?_⟩;obtain⟨n,rfl⟩:∃k,n=k+1:=⟨n - 1,by omega⟩
  simp only[BB,ih n AdE,h,h2,Ab9,if_false]
 | ar_end _ h h2 ih=>
  obtain⟨N,ih⟩:=ih;refine⟨N+1,λn hn=>?_⟩;obtain⟨n,rfl⟩:∃k,n=k+1:=⟨n - 1,by omega⟩;simp only[BB,ih n AdE,h,h2,Ab9,if_false,if_true]
theorem PE.det{T:List Ap}{m:FQ}{s:Ch}{r r':HG}(h:PE T m s r)(h':PE T m s r'):r=r':=by
 obtain⟨N,h⟩:=h.eval;obtain⟨M,h'⟩:=h'.eval;have:=(h (N+M) AdE).symm.trans (h' (N+M) AdE)
 simpa using this
theorem DF.det{T:List Ap}{o o':Except Int (List Ah)}(h:DF T o)(h':DF T o'):o=o':=by
 unfold DF at h h'
 split at h<;>split at h'
 ·rcases h with h | ⟨rfl,s,a,h,hk⟩<;>rcases h' with h' | ⟨rfl,s',a',h',a0⟩
  ·have:=h.det h';simp only[HG.err.injEq] at this;rw[this]
  ·cases h.det h'
  ·cases h.det h'
  ·rfl
 ·obtain⟨s',a',h',a0,rfl⟩:=h';rcases h with h | ⟨rfl,s,a,h,hk⟩
  ·cases h.det h'
  ·have:=h.det h';simp only[HG.ok.injEq] at this;obtain⟨rfl,rfl⟩:=this;exact absurd a0 hk
 ·obtain⟨s,a,h,hk,rfl⟩:=h;rcases h' with h' | ⟨rfl,s',a',h',a0⟩
  ·cases h.det h'
  ·have:=h.det h';simp only[HG.ok.injEq] at this;obtain⟨rfl,rfl⟩:=this;exact absurd hk a0
 ·obtain⟨s,a,h,hk,rfl⟩:=h;obtain⟨s',a',h',a0,rfl⟩:=h';have:=h.det h';simp only[HG.ok.injEq] at this;rw[this.1]
structure JG(t:Ap):Prop where
 num:t.kind=1→0≤t.num
 text:t.kind=2→NR t.text=true
 word:t.kind=3→NH t.text=true∧Br t.text=false
 ref:t.kind=4→Bz t.ref=true
 len:t.text.length≤1000
theorem Rv{c:UInt8}{l:List UInt8}(hc:¬c<32)(h:NR l=true):NR (c::l)=true:=by
 simp only[NR,decide_eq_true_eq] at h ⊢;intro j hj
 cases j with
 | zero=>
  show 32≤(c.toNat:Int);have:¬c.toNat<32:=λhh=>hc (AcC.2 (by simpa using hh))
  omega
 | succ j=>exact h j Ael
theorem Mf:∀(l:List UInt8) {x:List UInt8×Nat},AP l=some x→NR x.1=true∧x.1.length≤l.length
 | [],x,h=>by simp[AP] at h
 | [c],x,h=>by
  simp only[AP] at h
  split at h
  ·simp only[Aar] at h;subst h;exact⟨rfl,by simp⟩
  ·cases h
 | c::d::r,x,h=>by
  simp only[AP] at h
  split at h
  ·split at h
   ·cases e:AP r with
    | none=>rw[e] at h;cases h
    | some y=>
     rw[e] at h;simp only[Ab3,Aar] at h;have:=Mf r e;subst h;exact⟨Rv AdH this.1,by simp;omega⟩
   ·simp only[Aar] at h;subst h;exact⟨rfl,by simp⟩
  ·split at h
   ·cases h
   ·rename_i hc
    cases e:AP (d::r) with
    | none=>rw[e] at h;cases h
    | some y=>
     rw[e] at h;simp only[Ab3,Aar] at h;have:=Mf (d::r) e;subst h;exact⟨Rv hc this.1,by have:=this.2;simp at this ⊢;omega⟩
theorem Tv{s:List UInt8}(h:Br s=true):Bz (DX s)=true:=by
 simp only[Br,AaY,decide_eq_true_eq,AcG,decide_eq_false_iff_not] at h
 cases hm:Bz (DX s) with
 | true=>rfl
 | false=>
  have:=h.1.2;rw[D5,hm] at this;exact absurd this.symm h.2
theorem YY{l:List UInt8}{t:Ap}{k:Nat}(hl:l.length≤1000)(h:Dp l=some (t,k)):JG t:=by
 unfold Dp at h
 split at h
 ·rename_i h0;have a0:As A6 l≠[]:=by
   have:=(Kq (p:=A6) (l:=l) (by
    cases l with
    | nil=>cases h0
    | cons a b=>simp) h0).1
   exact Ab8.1 this
  rw[P1 a0] at h
  split at h
  ·simp only[Aar,Abz] at h;rw[←h.1];exact⟨λ_=>(ID _ (λj hj=>by
   have hh:=Ij A6 l _ (AbL hj)
   simpa[Aj,AaF,Aap hj] using hh)).1,by simp,by simp,by simp,by simp⟩
  ·cases h
 ·split at h
  ·unfold GF at h
   cases e:AP (l.drop 1) with
   | none=>rw[e] at h;cases h
   | some x=>
    rw[e] at h;simp only[Ab3,Aar,Abz] at h;have:=Mf _ e;rw[←h.1];exact⟨by simp,λ_=>this.1,by simp,by simp,by have:=this.2;simp at this ⊢;omega⟩
  ·split at h
   ·unfold Ip at h;simp only at h;have a1:=IP Kx l
    split at h
    ·rename_i hr;simp only[Aar,Abz] at h;rw[←h.1];exact⟨by simp,by simp,by simp,λ_=>Tv hr,by simp⟩
    ·rename_i hr
     split at h
     ·rename_i hf;simp only[Aar,Abz] at h;rw[←h.1];exact⟨by simp,by simp,λ_=>⟨hf,by simpa using hr⟩,by simp,by show(As Kx l).length≤1000;omega⟩
     ·cases h
   ·unfold H9 at h
    split at h
    ·simp only[Aar,Abz] at h;rw[←h.1];exact⟨by simp,by simp,by simp,by simp,by simp⟩
    ·cases e:Bk.find? λs=>Lib.hasPrefix l s with
     | none=>rw[e] at h;cases h
     | some x=>
      rw[e] at h;simp only[Ab3,Aar,Abz] at h;have:=Nl (Ad8 e);rw[←h.1];exact⟨by simp,by simp,by simp,by simp,by show x.length≤1000;omega⟩
theorem OW(a:Int):JG ⟨0,[],0,Ba,a⟩:=⟨by simp,by simp,by simp,by simp,by simp⟩
theorem Ur:∀(n:Nat) (l:List UInt8) (a:Nat) {out:List Ap},l.length≤n→l.length≤1000→Gh l a=some out→∀t∈out,JG t
 | n,l,a,out,hn,hl,h=>by
  cases e:l.drop (As JA l).length with
  | nil=>
   rw[G2 e] at h;simp only[Aar] at h;subst h;intro t ht;rw[Aad.1 ht]
   exact OW _
  | cons c r=>
   have hl':=congrArg List.length e;simp at hl'
   cases ho:Dp (c::r) with
   | none=>rw[HR e AdM ho] at h;cases h
   | some x=>
    obtain⟨t,k⟩:=x;have hk:=G6 AdM ho;have hok:=YY AdG ho;rw[I5 e AdM ho hk] at h
    cases hr:Gh ((c::r).drop k) (a+(As JA l).length+k) with
    | none=>rw[hr] at h;cases h
    | some y=>
     rw[hr] at h;simp only[Ab3,Aar] at h;subst h
     match n with
     | 0=>omega
     | n+1=>
      have hd:((c::r).drop k).length=r.length+1 - k:=AdM
      have:=Ur n ((c::r).drop k) _ AeA AeA hr;intro t' ht;rcases AaT.1 ht with rfl | ht
      ·exact⟨hok.num,hok.text,hok.word,hok.ref,hok.len⟩
      ·exact this t' ht
theorem YS{s:List UInt8}{T:List Ap}(hs:s.length≤1000)(h:Jq s=some T):∀t∈T,JG t:=Ur _ s 0 (Abi _) hs h
theorem FM{T:List Ap}(h:∀t∈T,JG t)(s:Ch):JG (Ad T s):=by
 unfold Ad;rcases AbI s.at_ T.length with hl | hl
 ·rw[AaF,Aap hl];exact h _ (AbL hl)
 ·rw[AaF,Abs hl];exact OW 0
theorem DL:∀(l m:List Ah) (i:Nat) (st:List Int),Bu i st (l++m)=(Bu i st l).bind λst'=>Bu (i+l.length) st' m
 | [],m,i,st=>by simp[Bu]
 | n::t,m,i,st=>by
  rw[AbQ,Bu,Bu]
  cases DD i st n with
  | none=>rfl
  | some st'=>
   simp only;rw[DL t m (i+1) st',AaL,show i+1+t.length=i+(t.length+1) by omega]
theorem Il{l:List Ah}{i:Nat}{st st' ks:List Int}{n:Ah}(h:Bu i st l=some (st'++ks))(hk:n.kids=ks)(hc:Jo n=n.kids.length)(hp:AB n=true):Bu i st (l++[n])=some (st'++[((i+l.length:Nat):Int)]):=by
 subst hk;rw[DL,h];simp only[Ack,Bu,DD];have e:(st'++n.kids).length - n.kids.length=st'.length:=AdM
 rw[e,if_pos ⟨hc,by simp,by simp,hp⟩];simp
theorem C8{n:Ah}(h:IE n=true)(hb:(Bl n).num=0∧(Bl n).text=[]∧(Bl n).ref=Ba∧(Bl n).to=Ba):AB n=true:=by
 simp[AB,h,hb]
def FR(s s1:Ch)(ks:List Int)(a:Nat):Prop:=
 ∃new,s1.out=s.out++new∧Em new∧∀st,Bu s.out.length (st++ks) new=some (st++[(a:Int)])
theorem FR.same{s s1 s2 s3:Ch}{ks:List Int}{a:Nat}(h:FR s s1 ks a)(e1:s2.out=s.out)(e2:s3.out=s1.out):FR s2 s3 ks a:=by
 obtain⟨new,h1,h2,h3⟩:=h;exact⟨new,by rw[e2,e1,h1],h2,by rw[e1];exact h3⟩
theorem ON{l m:List Ah}(h:Em l)(k:Em m):Em (l++m):=λn hn=>by
 rcases Abf.1 hn with hn | hn
 ·exact h n hn
 ·exact k n hn
theorem FR.nil(s s1:Ch)(a:Nat)(e:s1.out=s.out):FR s s1 [(a:Int)] a:=⟨[],by simp[e],(λn hn=>by cases hn),λst=>by simp[Bu]⟩
theorem FR.trans{s s1 s2:Ch}{ks:List Int}{a b:Nat}(h:FR s s1 ks a)(k:FR s1 s2 [(a:Int)] b):FR s s2 ks b:=by
 obtain⟨n1,e1,p1,t1⟩:=h;obtain⟨n2,e2,p2,t2⟩:=k;refine⟨n1++n2,by rw[e2,e1,AaR],ON p1 p2,λst=>?_⟩;rw[DL,t1];simp only[Ack];have:=t2 st;rw[e1,Aaq] at this;exact this
theorem FR.more{s s1 s2:Ch}{ks ks1:List Int}{a b:Nat}(h:FR s s1 ks a)(k:FR s1 s2 (ks1++[(a:Int)]) b):FR s s2 (ks1++ks) b:=by
 obtain⟨n1,e1,p1,t1⟩:=h;obtain⟨n2,e2,p2,t2⟩:=k;refine⟨n1++n2,by rw[e2,e1,AaR],ON p1 p2,λst=>?_⟩;rw[DL,←List.append_assoc,t1];simp only[Ack];have:=t2 st;rw[e1,Aaq] at this;rw[AaR];exact this
theorem FR.node{s s2 s3:Ch}{n:Ah}{ks:List Int}(hk:n.kids=ks)(hc:Jo n=n.kids.length)(hp:AB n=true)(hs:n.text.length≤1000∧n.ref.sheet.length≤1000∧n.to.sheet.length≤1000)(e:s3.out=s.out++[n])(e2:s2.out=s.out):FR s2 s3 ks s.out.length:=by
 refine⟨[n],by rw[e,e2],λx hx=>by rw[Aad.1 hx];exact hs,λst=>?_⟩;have:=Il (l:=[]) (i:=s2.out.length) (st:=st++ks) (st':=st) (ks:=ks) rfl hk hc hp
 simpa[e2] using this
theorem Ii{x:Da}(h:Bz x=true):x.sheet.length≤1000:=by
 simp only[Bz,AaY,AbP,decide_eq_true_eq] at h;rcases h.1.1.1.1 with h | h
 ·rw[h];simp
 ·simp only[Do,AaY,decide_eq_true_eq] at h;omega
theorem AV:Ba.sheet.length≤1000:=by decide
def Aax(m:FQ)(s:Ch):HG→Prop
 | .err _=>True
 | .ok s1 b=>match m with
  | .loop _ a=>FR s s1 [(a:Int)] b
  | .args x ks=>CP x=true→FR s s1 ks b
  | _=>FR s s1 [] b
theorem Nm{n:Nat}{s s1:Ch}{a:Nat}(h:Aax (below n) s (.ok s1 a)):FR s s1 [] a:=by
 unfold below at h
 split at h<;>exact h
theorem V3{T:List Ap}{s:Ch}{n i:Nat}(h:IV T s n=some i):9≤(AL n).getD i 0∧(AL n).getD i 0≤19:=by
 unfold IV at h
 split at h
 ·have hi:=(Ab2.1 h).1;have e:(BQ n).length=(AL n).length:=by
   unfold BQ AL
   match n with
   | 0=>rfl
   | 1=>rfl
   | 2=>rfl
   | _+3=>rfl
  have a0:∀z∈AL n,9≤z∧z≤19:=by
   unfold AL
   match n with
   | 0=>decide
   | 1=>decide
   | 2=>decide
   | _+3=>
    show ∀z∈[18,19],(9:Int)≤z∧z≤19
    decide
  rw[AaF,Aap AdE];exact a0 _ (AbL _)
 ·cases h
theorem NC{k:Int}(h0:9≤k)(h1:k≤19)(a b:Int):Jo {kind:=k,kids:=[a,b]}=2∧AB {kind:=k,kids:=[a,b]}=true:=by
 have hc:Dl k=2:=by
  unfold Dl;rw[if_neg AdE,if_neg AdE,if_neg AdE,if_pos AdE]
 constructor
 ·simp[Jo,hc]
 ·have hb:Bl {kind:=k,kids:=[a,b]}={kind:=k,kids:=[a,b]}:=by
   unfold Bl;rw[if_neg (show ¬k=1 by omega),if_neg (show ¬k=3 by omega),if_neg (show ¬k=2 by omega),if_neg (show ¬k=7 by omega),if_neg (show ¬k=5 by omega),if_neg (show ¬k=6 by omega)]
  have ho:IE {kind:=k,kids:=[a,b]}=true:=by
   unfold IE;rw[if_neg (show ¬k=1 by omega),if_neg (show ¬k=3 by omega),if_neg (show ¬k=2 by omega),if_neg (show ¬k=7 by omega),if_neg (show ¬k=5 by omega),if_neg (show ¬k=6 by omega)]
  exact C8 ho (by rw[hb];exact⟨rfl,rfl,rfl,rfl⟩)
theorem It{x:List UInt8}(h:CP x=true)(ks:List Int):Jo {kind:=7,text:=x,kids:=ks}=ks.length∧AB {kind:=7,text:=x,kids:=ks}=true:=by
 refine⟨if_pos rfl,C8 h ⟨rfl,rfl,rfl,rfl⟩⟩
theorem MP{x:List UInt8}(h:CP x=true):x.length≤1000:=by
 simp only[CP,NH,AaY,decide_eq_true_eq] at h;omega
theorem Pa{T:List Ap}(hT:∀t∈T,JG t){s:Ch}(h:(Ad T s).kind=3)(h1:(Ad T s).text≠DR)(h2:(Ad T s).text≠Dm):CP (Ad T s).text=true:=by
 have:=(FM hT s).word h;simp[CP,this,h1,h2]
theorem PE.puts{T:List Ap}(hT:∀t∈T,JG t){m:FQ}{s:Ch}{r:HG}(h:PE T m s r):Aax m s r:=by
 induction h with
 | lev_err _ _=>trivial
 | @lev_ok n s s1 a r _ _ ih1 ih2=>
  cases r with
  | err e=>trivial
  | ok s2 b=>exact(Nm ih1).trans ih2
 | loop_end _=>exact FR.nil _ _ _ rfl
 | loop_err _ _ _=>trivial
 | @loop_go n s a i s1 b r hi _ _ ih1 ih2=>
  cases r with
  | err e=>trivial
  | ok s2 c=>
   obtain⟨k0,k1⟩:=V3 hi;have hn:=NC k0 k1 (a:Int) (b:Int);have hp:FR s1 (BS s1 {kind:=(AL n).getD i 0,kids:=[(a:Int),(b:Int)]}) ([(a:Int)]++[(b:Int)]) s1.out.length:=FR.node (s:=s1) rfl hn.1 hn.2 ⟨by simp,AV,AV⟩ rfl rfl;have h1:FR s s1 [] b:=(Nm ih1).same rfl rfl;have:=h1.more hp
   exact this.trans ih2
 | @un_prim s r _ _ ih=>
  cases r with
  | err e=>trivial
  | ok s2 b=>exact ih
 | un_deep _ _=>trivial
 | un_err _ _ _ _=>trivial
 | @un_ok s s1 a _ _ _ ih=>
  have h1:FR s s1 [] a:=FR.same ih rfl rfl;have hp:FR s1 (BS (CE s1) {kind:=8,kids:=[(a:Int)]}) ([]++[(a:Int)]) s1.out.length:=FR.node (s:=s1) rfl rfl rfl ⟨by simp,AV,AV⟩ rfl rfl
  exact h1.more hp
 | pr_sign _ _=>trivial
 | pr_deep _ _=>trivial
 | pr_err _ _ _ _=>trivial
 | pr_open _ _ _ _ _=>trivial
 | pr_ok _ _ _ _ ih=>exact FR.same ih rfl rfl
 | pr_end _=>trivial
 | @pr_num s h=>
  have h0:=(FM hT s).num h
  exact FR.node (s:=s) rfl rfl (C8 (by show decide (0≤(Ad T s).num)=true;simpa using h0) ⟨rfl,rfl,rfl,rfl⟩) ⟨by simp,AV,AV⟩ rfl rfl
 | @pr_text s h=>
  exact FR.node (s:=s) rfl rfl (C8 (by show NR (Ad T s).text=true;exact(FM hT s).text h) ⟨rfl,rfl,rfl,rfl⟩) ⟨(FM hT s).len,AV,AV⟩ rfl rfl
 | @pr_dead s h=>exact FR.node (s:=s) rfl rfl rfl ⟨by simp,AV,AV⟩ rfl rfl
 | @pr_ref s h _=>
  have h0:=(FM hT s).ref h
  exact FR.node (s:=s) rfl rfl (C8 (by show Bz (Ad T s).ref=true;exact h0) ⟨rfl,rfl,rfl,rfl⟩) ⟨by simp,Ii h0,AV⟩ rfl rfl
 | @pr_range s h _ h' hr=>
  have h0:=(FM hT s).ref h;have h1:=(FM hT (Ax (Ax s))).ref h'
  exact FR.node (s:=s) rfl rfl (C8 (by show(Bz (Ad T s).ref&&(Bz (Ad T (Ax (Ax s))).ref&&BL (Ad T s).ref (Ad T (Ax (Ax s))).ref))=true;rw[h0,h1,hr];rfl) ⟨rfl,rfl,rfl,rfl⟩) ⟨by simp,Ii h0,Ii h1⟩ rfl rfl
 | pr_norange _ _ _=>trivial
 | @pr_true s _ _=>exact FR.node (s:=s) rfl rfl rfl ⟨by simp,AV,AV⟩ rfl rfl
 | @pr_false s _ _=>exact FR.node (s:=s) rfl rfl rfl ⟨by simp,AV,AV⟩ rfl rfl
 | pr_nocall _ _ _ _=>trivial
 | pr_calldeep _ _ _ _ _=>trivial
 | @pr_call0 s h h1 h2 _ _ _=>
  have hn:=Pa hT h h1 h2;have hc:=It hn []
  exact FR.node (s:=s) rfl hc.1 hc.2 ⟨MP hn,AV,AV⟩ rfl rfl
 | @pr_call s r h h1 h2 _ _ _ _ ih=>
  cases r with
  | err e=>trivial
  | ok s2 b=>exact FR.same (ih (Pa hT h h1 h2)) rfl rfl
 | ar_err _ _=>trivial
 | @ar_go x ks s s1 a r _ _ _ ih1 ih2=>
  cases r with
  | err e=>trivial
  | ok s2 b=>
   intro hn;have h2:FR s1 s2 (ks++[(a:Int)]) b:=FR.same (ih2 hn) rfl rfl;have h1:FR s s1 [] a:=ih1;have:=h1.more h2
   rwa [Aby] at this
 | ar_open _ _ _ _=>trivial
 | @ar_end x ks s s1 a _ _ _ ih=>
  intro hn;have hc:=It hn (ks++[(a:Int)]);have hp:FR s1 (BS (CE (Ax s1)) {kind:=7,text:=x,kids:=ks++[(a:Int)]}) (ks++[(a:Int)]) s1.out.length:=FR.node (s:=s1) rfl hc.1 hc.2 ⟨MP hn,AV,AV⟩ rfl rfl;have h1:FR s s1 [] a:=ih;have:=h1.more hp
  rwa [Aby] at this
theorem DF.tree{T:List Ap}{l:List Ah}(hT:∀t∈T,JG t)(h:DF T (.ok l)):Cr l=true∧Em l:=by
 obtain⟨s,a,hp,_,he⟩:=h;obtain⟨new,h1,h2,h3⟩:FR ⟨0,[],0⟩ s [] a:=hp.puts hT;have:l=new:=by rw[←he,h1];rfl
 subst this;refine⟨?_,h2⟩;have h4:Bu 0 [] l=some [(a:Int)]:=h3 [];rw[Cr,h4];rfl
def Ka:List (List UInt8):=[[61],[60,62],[60],[60,61],[62],[62,61],[38],[43],[45],[42],[47]]
theorem YZ{u:Nat}(hu:u≤9223372036854775807){R:List UInt8}(hR:R=[]∨A6 (Aj R 0)=false):Dp (Lib.decDigits u++R)=some (⟨1,[],u,Ba,0⟩,(Lib.decDigits u).length):=by
 obtain⟨h1,h2,h3,h4,h5⟩:=Ft u u (Abi _);have h0:A6 (Aj (Lib.decDigits u++R) 0)=true:=by
  rw[Eu h2];obtain⟨c,hm,e⟩:=F3 (Ab8.2 h2);rw[e];exact h1 c hm
 have hs:As A6 (Lib.decDigits u++R)=Lib.decDigits u:=by
  rw[FZ A6 _ R h1];have:As A6 R=[]:=by
   rcases hR with rfl | h
   ·rfl
   ·cases R with
    | nil=>rfl
    | cons c r=>
     have:A6 (c.toNat:Int)=false:=h;simp[As,this]
  rw[this,Aby]
 have hc:((u:Nat):Int)≤9223372036854775807∧(Aj (Lib.decDigits u) 0≠48∨(Lib.decDigits u).length=1):=by
  refine⟨by omega,?_⟩;by_cases hz:u=0
  ·exact .inr (h5 hz)
  ·exact .inl (h4 hz)
 rw[Dp,h0,if_pos rfl,P1 (by rw[hs];exact h2),hs,h3,if_pos hc]
theorem V6{X R:List UInt8}{t:Ap}{a:Nat}(hX:X≠[])(hb:Aj X 0≠32)(h1:Dp (X++R)=some (t,X.length)):Gh (X++R) a=(Gh R (a+X.length)).map ({t with at_:=(a:Int)}::·):=by
 have hs:As JA (X++R)=[]:=by
  cases X with
  | nil=>exact absurd rfl hX
  | cons c r=>
   have:JA (c.toNat:Int)=false:=by simp[JA];exact hb
   simp[As,this]
 have:=I5 (l:=X++R) (l':=X++R) (a:=a) (t:=t) (k:=X.length) (by rw[hs];rfl) (by simp[hX]) h1 (Ab8.2 hX);rw[this,hs];simp
theorem Mx(u:Nat):A6 (Aj (Lib.decDigits u) 0)=true∧Lib.decDigits u≠[]∧Aj (Lib.decDigits u) 0≠32:=by
 obtain⟨h1,h2,_⟩:=Ft u u (Abi _);obtain⟨c,hm,e⟩:=F3 (Ab8.2 h2);exact⟨by rw[e];exact h1 c hm,h2,WY h2 h1⟩
inductive Tr:Bool→Type where
 | leaf (n:Ah):Tr false
 | neg (a:Tr false):Tr false
 | two (k:Int) (a b:Tr false):Tr false
 | call (x:List UInt8) (ks:Tr true):Tr false
 | nil:Tr true
 | snoc (ks:Tr true) (a:Tr false):Tr true
def Tr.cnt:{b:Bool}→Tr b→Nat
 | _,.leaf _=>1
 | _,.neg a=>a.cnt+1
 | _,.two _ a b=>a.cnt+b.cnt+1
 | _,.call _ ks=>ks.cnt+1
 | _,.nil=>0
 | _,.snoc ks a=>ks.cnt+a.cnt
def Tr.kids(o:Nat):{b:Bool}→Tr b→List Int
 | _,.snoc ks a=>ks.kids o++[((o+ks.cnt+a.cnt - 1:Nat):Int)]
 | _,_=>[]
def Tr.flat:(o:Nat)→{b:Bool}→Tr b→List Ah
 | _,_,.leaf n=>[n]
 | o,_,.neg a=>a.flat o++[{kind:=8,kids:=[((o+a.cnt - 1:Nat):Int)]}]
 | o,_,.two k a b=>a.flat o++b.flat (o+a.cnt)++[{kind:=k,kids:=[((o+a.cnt - 1:Nat):Int),((o+a.cnt+b.cnt - 1:Nat):Int)]}]
 | o,_,.call x ks=>ks.flat o++[{kind:=7,text:=x,kids:=ks.kids o}]
 | _,_,.nil=>[]
 | o,_,.snoc ks a=>ks.flat o++a.flat (o+ks.cnt)
def Tr.Fit:{b:Bool}→Tr b→Prop
 | _,.leaf n=>1≤n.kind∧n.kind≤6∧n.kids=[]∧AB n=true
 | _,.neg a=>a.Fit
 | _,.two k a b=>9≤k∧k≤19∧a.Fit∧b.Fit
 | _,.call x ks=>CP x=true∧ks.Fit
 | _,.nil=>True
 | _,.snoc ks a=>ks.Fit∧a.Fit
theorem Tr.flat_len:∀{b:Bool} (t:Tr b) (o:Nat),(t.flat o).length=t.cnt
 | _,.leaf n,o=>rfl
 | _,.neg a,o=>by simp[Tr.flat,Tr.cnt,flat_len a]
 | _,.two k a b,o=>by simp[Tr.flat,Tr.cnt,flat_len a,flat_len b];omega
 | _,.call x ks,o=>by simp[Tr.flat,Tr.cnt,flat_len ks]
 | _,.nil,o=>rfl
 | _,.snoc ks a,o=>by simp[Tr.flat,Tr.cnt,flat_len ks,flat_len a]
theorem Tr.snoc_form(ts:Tr true):ts=.nil∨∃ks a,ts=.snoc ks a:=by
 cases ts with
 | nil=>exact .inl rfl
 | snoc ks a=>exact .inr ⟨ks,a,rfl⟩
theorem Tr.split(k:Nat):∀(ts:Tr true),ts.Fit→k≤(ts.kids 0).length→∃ts1 ks:Tr true,ts.flat 0=ts1.flat 0++ks.flat ts1.cnt∧ts.kids 0=ts1.kids 0++ks.kids ts1.cnt∧(ks.kids ts1.cnt).length=k∧ts.cnt=ts1.cnt+ks.cnt∧ts1.Fit∧ks.Fit:=by
 induction k with
 | zero=>exact λts hf _=>⟨ts,.nil,by simp[Tr.flat],by simp[Tr.kids],rfl,rfl,hf,trivial⟩
 | succ k ih=>
  intro ts hf hk;rcases Tr.snoc_form ts with rfl | ⟨rs,a,rfl⟩
  ·simp[Tr.kids] at hk
  ·simp only[Tr.kids,Aaq,Adi] at hk;obtain⟨ts1,ks,h1,h2,h3,h4,h5,h6⟩:=ih rs hf.1 AdE;refine⟨ts1,.snoc ks a,?_,?_,?_,?_,h5,h6,hf.2⟩
   ·simp only[Tr.flat,h1,h4,AaR,AbC]
   ·simp only[Tr.kids,h2,h4,AaR,AbC]
   ·simp only[Tr.kids,Aaq,h3,Adi]
   ·simp only[Tr.cnt,h4,Ac0]
theorem V2{n:Ah}(h:Jo n=n.kids.length):(1≤n.kind∧n.kind≤6∧n.kids=[])∨n.kind=7∨(n.kind=8∧n.kids.length=1)∨(9≤n.kind∧n.kind≤19∧n.kids.length=2):=by
 unfold Jo Dl at h;by_cases h1:n.kind<1∨19<n.kind
 ·rw[if_pos h1,if_neg AdH] at h;omega
 rw[if_neg h1] at h;by_cases h2:n.kind=7
 ·exact .inr (.inl h2)
 rw[if_neg h2] at h;by_cases h3:n.kind=8
 ·rw[if_pos h3,if_neg AdH] at h;exact .inr (.inr (.inl ⟨h3,by omega⟩))
 rw[if_neg h3] at h;by_cases h4:8<n.kind
 ·rw[if_pos h4,if_neg AdH] at h;exact .inr (.inr (.inr ⟨by omega,by omega,by omega⟩))
 ·rw[if_neg h4,if_neg AdH] at h;exact .inl ⟨by omega,by omega,Abt AdE⟩
theorem Od{n:Ah}(hp:AB n=true)(hk:8≤n.kind):n={kind:=n.kind,kids:=n.kids}:=by
 simp only[AB,AaY,decide_eq_true_eq] at hp;have hb:Bl n=n:=by
  unfold Bl;rw[if_neg AdE,if_neg AdE,if_neg AdE,if_neg AdE,if_neg AdE,if_neg AdE]
 rw[hb] at hp;obtain⟨_,h1,h2,h3,h4⟩:=hp;cases n;simp_all
theorem UY{n:Ah}(hp:AB n=true)(hk:n.kind=7):n={kind:=7,text:=n.text,kids:=n.kids}∧CP n.text=true:=by
 simp only[AB,AaY,decide_eq_true_eq] at hp;have hb:Bl n={n with text:=[]}:=by
  unfold Bl;rw[if_neg AdE,if_neg AdE,if_neg AdE,if_pos hk]
 have ho:IE n=CP n.text:=by
  unfold IE;rw[if_neg AdE,if_neg AdE,if_neg AdE,if_pos hk]
 rw[hb,ho] at hp;obtain⟨h0,h1,h2,h3,h4⟩:=hp;refine⟨?_,h0⟩;cases n;simp_all
theorem Zl{α:Type}{p:List α→Prop}(h0:p [])(h1:∀l a,p l→p (l++[a])):∀l,p l:=by
 intro l;have:∀(n:Nat) (l:List α),l.length=n→p l:=by
  intro n
  induction n with
  | zero=>intro l hl;rw[Abt hl];exact h0
  | succ n ih=>
   intro l hl;have a0:l≠[]:=by intro e;subst e;simp at hl
   rw[←List.dropLast_concat_getLast a0];exact h1 _ _ (ih _ (by simp[hl]))
 exact this _ l rfl
theorem Vr:∀(l:List Ah) (st:List Int),Bu 0 [] l=some st→∃ts:Tr true,ts.flat 0=l∧ts.kids 0=st∧ts.Fit:=by
 refine Zl ?_ ?_
 ·intro st h;simp only[Bu,Aar] at h;exact⟨.nil,rfl,h,trivial⟩
 ·intro l n ih st h;rw[DL] at h
  cases e:Bu 0 [] l with
  | none=>rw[e] at h;cases h
  | some s0=>
   rw[e] at h;simp only[Ack,Bu,AbC] at h;obtain⟨ts,hf,hk,a8⟩:=ih s0 e
   cases e2:DD l.length s0 n with
   | none=>rw[e2] at h;cases h
   | some s1=>
    rw[e2] at h;simp only[Aar] at h;subst h;unfold DD at e2
    split at e2
    ·rename_i hc;simp only[Aar] at e2;obtain⟨c1,c2,c3,c4⟩:=hc;obtain⟨ts1,ks,a1,a2,a3,a4,a5,a6⟩:=ts.split n.kids.length a8 (by rw[hk];exact c2);have a0:ks.kids ts1.cnt=n.kids:=by
      rw[←c3,←hk,a2];have:(ts1.kids 0++ks.kids ts1.cnt).length - n.kids.length=(ts1.kids 0).length:=by rw[Aaq,a3];omega
      rw[this,Ad9];rfl
     have a7:s0.take (s0.length - n.kids.length)=ts1.kids 0:=by
      rw[←hk,a2];have:(ts1.kids 0++ks.kids ts1.cnt).length - n.kids.length=(ts1.kids 0).length:=by rw[Aaq,a3];omega
      rw[this,List.take_left'];rfl
     have a9:l.length=ts1.cnt+ks.cnt:=by rw[←hf,Tr.flat_len,a4]
     have key:∀a:Tr false,a.Fit→a.cnt=ks.cnt+1→a.flat ts1.cnt=ks.flat ts1.cnt++[n]→∃ts:Tr true,ts.flat 0=l++[n]∧ts.kids 0=s1∧ts.Fit:=by
      intro a h1 h2 h3;refine⟨.snoc ts1 a,?_,?_,a5,h1⟩
      ·simp only[Tr.flat,AbC,h3];rw[←List.append_assoc,←a1,hf]
      ·simp only[Tr.kids,AbC];rw[←e2,a7,a9,h2];rfl
     rcases V2 c1 with ⟨b1,b2,b3⟩ | b1 | ⟨b1,b2⟩ | ⟨b1,b2,b3⟩
     ·have aa:ks.kids ts1.cnt=[]:=by rw[a0,b3]
      rcases ks.snoc_form with rfl | ⟨rs,a,rfl⟩
      ·exact key (.leaf n) ⟨b1,b2,b3,c4⟩ rfl rfl
      ·simp[Tr.kids] at aa
     ·obtain⟨d1,d2⟩:=UY c4 b1;refine key (.call n.text ks) ⟨d2,a6⟩ rfl ?_;simp only[Tr.flat,a0];rw[←d1]
     ·rcases ks.snoc_form with rfl | ⟨rs,a,rfl⟩
      ·simp[Tr.kids] at a3;omega
      ·rcases rs.snoc_form with rfl | ⟨rs',a',rfl⟩
       ·refine key (.neg a) a6.2 (by simp[Tr.cnt]) ?_;have hn:=Od c4 AdE;rw[←a0,b1] at hn;simp only[Tr.flat,Tr.kids,Tr.cnt,Ab5,AbZ] at hn ⊢;rw[hn]
       ·simp[Tr.kids] at a3;omega
     ·rcases ks.snoc_form with rfl | ⟨rs,b,rfl⟩
      ·simp[Tr.kids] at a3;omega
      ·rcases rs.snoc_form with rfl | ⟨rs',a,rfl⟩
       ·simp[Tr.kids] at a3;omega
       ·rcases rs'.snoc_form with rfl | ⟨rs'',a',rfl⟩
        ·refine key (.two n.kind a b) ⟨b1,b2,a6.1.2,a6.2⟩ (by simp[Tr.cnt]) ?_;have hn:=Od c4 AdE;rw[←a0] at hn;simp only[Tr.flat,Tr.kids,Tr.cnt,Ab5,AbC,AbZ,AbQ] at hn ⊢;rw[←hn]
        ·simp[Tr.kids] at a3;omega
    ·cases e2
theorem Kt{l:List Ah}(h:Cr l=true):∃t:Tr false,t.flat 0=l∧t.Fit:=by
 unfold Cr at h
 split at h
 ·rename_i st e;obtain⟨ts,h1,h2,h3⟩:=Vr l st e;have h:=of_decide_eq_true h;rcases ts.snoc_form with rfl | ⟨rs,a,rfl⟩
  ·rw[←h2] at h;simp[Tr.kids] at h
  ·rcases rs.snoc_form with rfl | ⟨rs',a',rfl⟩
   ·exact⟨a,by simpa[Tr.flat,Tr.cnt] using h1,h3.2⟩
   ·rw[←h2] at h;simp[Tr.kids] at h
 ·cases h
def Eg(s:List UInt8):List UInt8:=34::(s.flatMap (λc=>if c=34 then[34,34] else[c])++[34])
def BJ(t:Ap):List UInt8:=if t.kind=1 then Lib.itoa t.num else if t.kind=2 then Eg t.text else if t.kind=4 then BR t.ref else if t.kind=6 then Jc else t.text
def nA(t:Ap):Ap:={t with at_:=0}
def Q8:Ap:=⟨0,[],0,Ba,0⟩
def sg(s:List UInt8):Ap:=⟨5,s,0,Ba,0⟩
theorem Dj(s:List UInt8):BJ (sg s)=s:=rfl
theorem IQ(t:Ap):BJ (nA t)=BJ t:=rfl
inductive F0:Ap→Prop
 | num {z:Int}:0≤z→z≤9223372036854775807→F0 ⟨1,[],z,Ba,0⟩
 | text {s:List UInt8}:NR s=true→F0 ⟨2,s,0,Ba,0⟩
 | word {s:List UInt8}:NH s=true→Br s=false→F0 ⟨3,s,0,Ba,0⟩
 | ref {r:Da}:Bz r=true→F0 ⟨4,[],0,r,0⟩
 | sign {s:List UInt8}:s∈Bk→F0 (sg s)
 | dead:F0 ⟨6,[],0,Ba,0⟩
def MX(t:Ap)(R:List UInt8):Prop:=
 (t.kind=1→A6 (Aj R 0)=false)∧(t.kind=2→Aj R 0≠34)∧(t.kind=3∨t.kind=4→Kx (Aj R 0)=false)∧(t.kind=5→t.text=[60]∨t.text=[62]→Aj R 0≠61∧Aj R 0≠62)
theorem YM{R:List UInt8}(h:Aj R 0≠34):R.head?≠some 34:=by
 cases R with
 | nil=>simp
 | cons c r=>
  simp only[List.head?_cons,ne_eq,Aar];rintro rfl;exact h rfl
theorem OR{p:Int→Bool}{R:List UInt8}(h:p (Aj R 0)=false):As p R=[]:=by
 cases R with
 | nil=>rfl
 | cons c r=>
  have:p (c.toNat:Int)=false:=h;simp[As,this]
theorem RP:∀(s R:List UInt8),NR s=true→R.head?≠some 34→AP (s.flatMap (λc=>if c=34 then[34,34] else[c])++34::R)=some (s,(s.flatMap (λc=>if c=34 then[34,34] else[c])).length+1)
 | [],R,_,h=>Yl h
 | c::s,R,hp,h=>by
  have hp':NR s=true:=by
   simp only[NR,decide_eq_true_eq] at hp ⊢;intro j hj;exact hp (j+1) Ael
  have hc:¬c<32:=by
   simp only[NR,decide_eq_true_eq] at hp;have h0:32≤(c.toNat:Int):=hp 0 AdM;intro hh;have:=AcC.1 hh;simp at this;omega
  have ih:=RP s R hp' h;by_cases a0:c=34
  ·subst a0;simp only[Ab6,if_true,AbQ,Ab5];rw[UD,ih];simp
  ·simp only[Ab6,if_neg a0,AbQ,Ab5];rw[Yi a0 hc,ih];simp
theorem VK{s R:List UInt8}(hp:NR s=true)(h:Aj R 0≠34):Dp (Eg s++R)=some (⟨2,s,0,Ba,0⟩,(Eg s).length):=by
 have hb:Aj (Eg s++R) 0=34:=rfl;rw[Dp,hb,show A6 34=false from rfl,if_neg AdM,if_pos rfl,GF];have e:(Eg s++R).drop 1=s.flatMap (λc=>if c=34 then[34,34] else[c])++34::R:=by simp[Eg]
 rw[e,RP s R hp (YM h)];simp[Eg]
theorem Ns{r:Da}(h:Bz r=true):(∀c∈BR r,Kx (c.toNat:Int)=true)∧Gq (Aj (BR r) 0)=true:=by
 obtain⟨hs,c0,c1,r0,r1⟩:=Ez h;obtain⟨hc,a3,_⟩:=Pk c0 c1;obtain⟨hd,a5,_,_⟩:=I4 (z:=r.row+1) AdE AdE;have a0:∀b c,c∈DB b→c=36:=λb c hm=>by cases b<;>simp[DB] at hm;exact hm
 have wcap:∀z,Cm z=true→Gq z=true:=λz hz=>by simp[Gq,hz]
 have wld:∀z,W8 z=true→Kx z=true:=λz hz=>by
  simp only[W8,LP,AbP] at hz;simp only[Kx,Gq,AbP];rcases hz with (hz | hz) | hz
  ·exact .inl (.inl (.inl (.inl hz)))
  ·exact .inl (.inl (.inl (.inr hz)))
  ·exact .inl (.inr hz)
 refine⟨?_,?_⟩
 ·intro c hm;simp only[BR,Abf] at hm;rcases hm with hm | ((hm | hm) | hm) | hm
  ·by_cases a1:r.sheet=[]
   ·simp[a1] at hm
   ·simp only[a1,if_false,Abf,Aad] at hm;rcases hm with hm | hm
    ·obtain⟨_,_,a4⟩:=FB (hs.resolve_left a1);obtain⟨j,hj,rfl⟩:=AcL.1 hm;have:=a4 j hj;rw[DW hj] at this;exact wld _ this
    ·subst hm;rfl
  ·rw[a0 _ c hm];rfl
  ·have:=wcap _ (hc c hm);simp[Kx,this]
  ·rw[a0 _ c hm];rfl
  ·have:=hd c hm;simp[Kx,this]
 ·have a2:∀x,Gq (Aj (DB r.ac++Gu r.col++x) 0)=true:=λx=>by
   cases ha:r.ac with
   | true=>rfl
   | false=>
    have:DB false++Gu r.col++x=Gu r.col++x:=rfl;rw[this,BG a3];obtain⟨c,hm,e⟩:=F3 a3;rw[e];exact wcap _ (hc c hm)
  by_cases a1:r.sheet=[]
  ·have:=a2 (DB r.ar++Lib.itoa (r.row+1))
   simpa[BR,a1] using this
  ·have hn:=hs.resolve_left a1;have hl:LP (Aj r.sheet 0)=true:=by
    simp only[Do,AaY,decide_eq_true_eq] at hn;exact hn.1.2
   have:Aj (BR r) 0=Aj r.sheet 0:=by
    simp only[BR,a1,if_false,AaR];exact BG (Ab8.2 a1)
   rw[this,ZP,hl];rfl
theorem K2{z:Int}(h:Gq z=true):A6 z=false∧z≠34∧z≠32∧z≠35∧z≠61∧z≠62:=by
 simp only[Gq,Cm,AbP,AaY,decide_eq_true_eq] at h;refine⟨?_,by omega,by omega,by omega,by omega,by omega⟩;simp[A6];omega
theorem M6{s:List UInt8}(h:NH s=true):s≠[]∧s.length≤12∧Cm (Aj s 0)=true∧∀c∈s,Kx (c.toNat:Int)=true:=by
 simp only[NH,AaY,decide_eq_true_eq] at h;obtain⟨⟨⟨h0,h1⟩,h2⟩,h3⟩:=h;refine⟨h0,h1,h2,λc hc=>?_⟩;obtain⟨j,hj,rfl⟩:=AcL.1 hc;have:=h3 j hj;rw[DW hj] at this;simp only[Z7,AbP] at this;simp only[Kx,Gq,AbP];rcases this with h | h
 ·exact .inl (.inl (.inl (.inl h)))
 ·exact .inl (.inr h)
theorem LY{z:Int}(h:Cm z=true):Gq z=true:=by simp[Gq,h]
theorem Kk:∀s∈Bk,s≠[]∧A6 (Aj s 0)=false∧Aj s 0≠34∧Gq (Aj s 0)=false∧Aj s 0≠35∧Aj s 0≠32∧Kx (Aj s 0)=false:=by decide
theorem Aac{s R:List UInt8}(hs:s∈Bk)(h:s=[60]∨s=[62]→Aj R 0≠61∧Aj R 0≠62):Dp (s++R)=some (sg s,s.length):=by
 obtain⟨a0,a1,a2,a3,a4,_,_⟩:=Kk s hs;have hb:Aj (s++R) 0=Aj s 0:=Eu a0 _;have hf:Bk.find? (λx=>Lib.hasPrefix (s++R) x)=some s:=by
  rcases Yq hs with hl | hp
  ·match s,hl with
   | [c],_=>
    have hn:([c]++R).take 2∉Ee:=by
     cases R with
     | nil=>simp[Ee]
     | cons d r=>
      simp only[AbQ,Ab5,List.take,Ee,AaT,Acu,and_true,Abu,or_false];rintro(⟨rfl,rfl⟩ | ⟨rfl,rfl⟩ | ⟨rfl,rfl⟩)
      ·exact(h (.inl rfl)).2 rfl
      ·exact(h (.inl rfl)).1 rfl
      ·exact(h (.inr rfl)).1 rfl
    rw[RS AdM hn,hb];have:∀s∈Bk,s.length=1→sgB (Aj s 0)=true:=AdH
    rw[this [c] hs rfl];rfl
  ·have h2:s.length=2:=by
    have:∀p∈Ee,p.length=2:=AdH
    exact this _ hp
   have ht:(s++R).take 2=s:=by rw[←h2,AdB]
   rw[Wn (by rw[ht];exact hp),ht]
 rw[Dp,hb,a1,if_neg AdM,if_neg a2,a3,if_neg AdM,H9,SH (by rw[hb];exact a4),if_neg AdM,hf];rfl
theorem Aab{t:Ap}(h:F0 t){R:List UInt8}(hn:MX t R):Dp (BJ t++R)=some (t,(BJ t).length):=by
 cases h with
 | @num z h0 h1=>
  show Dp (Lib.itoa z++R)=some (_,(Lib.itoa z).length);have e:((z.toNat:Nat):Int)=z:=AdE
  rw[Gz h0,YZ (u:=z.toNat) AdE (.inr (hn.1 rfl)),e]
 | text hp=>exact VK hp (hn.2.1 rfl)
 | @word s hf ho=>
  obtain⟨f0,f1,f2,f3⟩:=M6 hf;obtain⟨b0,b1,_⟩:=K2 (LY f2);have hs:As Kx (s++R)=s:=by rw[FZ Kx s R f3,OR (hn.2.2.1 (.inl rfl)),Aby]
  show Dp (s++R)=some (_,s.length)
  rw[Dp,Eu f0,b0,if_neg AdM,if_neg b1,LY f2,if_pos rfl,Ip,hs,ho,if_neg AdM,hf,if_pos rfl]
 | @ref r hm=>
  obtain⟨g0,g1⟩:=Ns hm;obtain⟨a0,a1⟩:=Wa hm;obtain⟨b0,b1,_⟩:=K2 g1;have hs:As Kx (BR r++R)=BR r:=by rw[FZ Kx _ R g0,OR (hn.2.2.1 (.inr rfl)),Aby]
  show Dp (BR r++R)=some (_,(BR r).length)
  rw[Dp,Eu (N9 hm),b0,if_neg AdM,if_neg b1,g1,if_pos rfl,Ip,hs,a0,if_pos rfl,a1]
 | sign hs=>exact Aac hs (hn.2.2.2 rfl)
 | dead=>rfl
theorem KY{t:Ap}(h:F0 t):BJ t≠[]∧Aj (BJ t) 0≠32:=by
 cases h with
 | @num z h0 h1=>
  show Lib.itoa z≠[]∧Aj (Lib.itoa z) 0≠32;rw[Gz h0]
  exact⟨(Mx _).2.1,(Mx _).2.2⟩
 | text hp=>exact⟨by simp[BJ,Eg],by show(34:Int)≠32;decide⟩
 | word hf ho=>
  obtain⟨f0,f1,f2,f3⟩:=M6 hf
  exact⟨f0,(K2 (LY f2)).2.2.1⟩
 | ref hm=>exact⟨N9 hm,(K2 (Ns hm).2).2.2.1⟩
 | sign hs=>
  obtain⟨a0,a1,a2,a3,a4,a5,_⟩:=Kk _ hs
  exact⟨a0,a5⟩
 | dead=>exact⟨by simp[BJ,Jc],by decide⟩
def Pe:List Ap→Prop
 | []=>True
 | t::r=>MX t (r.flatMap BJ)∧Pe r
theorem QS:∀(ts:List Ap) (a:Nat),(∀t∈ts,F0 t)→Pe ts→∃T,Gh (ts.flatMap BJ) a=some T∧T.map nA=ts++[Q8]
 | [],a,_,_=>⟨_,G2 rfl,rfl⟩
 | t::r,a,hc,hl=>by
  have ht:=hc t AdM;obtain⟨T,h1,h2⟩:=QS r (a+(BJ t).length) (λx hx=>hc x Ae9) hl.2;obtain⟨n0,n1⟩:=KY ht;rw[Ab6,V6 n0 n1 (Aab ht hl.1),h1];refine⟨_,rfl,?_⟩;simp only[AbK,h2,AbQ,Acu,and_true];cases ht<;>rfl
theorem WX:∀(n:Nat) (l:List UInt8),l.length≤n→(∀c∈l,A6 (c.toNat:Int)=true)→l≠[]→(Aj l 0≠48∨l.length=1)→(Lib.itoa (Cq 0 l)).length≤l.length
 | n,l,hn,hd,hne,h0=>by
  have hb:=ID l (λj hj=>by
   have:=hd _ (AbL hj)
   simpa[DW hj] using this)
  rw[Gz hb.1];obtain⟨r,c,rfl⟩:∃r c,l=r++[c]:=⟨l.dropLast,l.getLast hne,(AcB hne).symm⟩;have hc:=hd c AdM;simp only[A6,AaY,decide_eq_true_eq] at hc
  cases r with
  | nil=>
   have e:Cq 0 ([]++[c])=(c.toNat:Int) - 48:=by
    rw[IC];have:Cq 0 []=0:=rfl;omega
   rw[e,CH AdE]
   simp
  | cons d r=>
   have a0:∀x∈d::r,A6 (x.toNat:Int)=true:=λx hx=>hd x (AbR _ hx);have h1:Aj (d::r) 0≠48:=by
    rcases h0 with h0 | h0
    ·exact h0
    ·simp at h0
   match n with
   | 0=>simp at hn
   | n+1=>
    have ih:=WX n (d::r) (by simp at hn ⊢;omega) a0 AdM (.inl h1);have a1:=ID (d::r) (λj hj=>by
     have:=a0 _ (AbL hj)
     simpa[DW hj] using this)
    rw[Gz a1.1] at ih;have a2:∀x∈d::r,48≤x.toNat:=λx hx=>by
     have:=a0 x hx;simp only[A6,AaY,decide_eq_true_eq] at this;omega
    have a3:Cq 0 (d::r)≠0:=λhz=>by
     obtain⟨_,h2⟩:=H5 (d::r) 0 AdE a2 hz;have:=h2 d AdM;exact h1 (by show(d.toNat:Int)=48;omega)
    have hx:=IC 0 (d::r) c;have e1:10≤(Cq 0 (d::r++[c])).toNat:=AdE
    have e2:(Cq 0 (d::r++[c])).toNat / 10=(Cq 0 (d::r)).toNat:=AdE
    rw[DZ e1,e2];simp only[Aaq,Adi];omega
theorem Pm:∀(n:Nat) (l:List UInt8) (x:List UInt8×Nat),l.length≤n→AP l=some x→(x.1.flatMap (λc=>if c=(34:UInt8) then[34,34] else[c])).length+1≤x.2
 | n,[],x,hn,h=>by simp[AP] at h
 | 0,c::l,x,hn,h=>by simp at hn
 | n+1,c::l,x,hn,h=>by
  simp only[AaL] at hn;by_cases h1:c=34
  ·subst h1;by_cases hq:l.head?=some 34
   ·cases l with
    | nil=>cases hq
    | cons d r=>
     simp only[List.head?_cons,Aar] at hq;subst hq;rw[UD] at h
     cases e:AP r with
     | none=>rw[e] at h;cases h
     | some y=>
      rw[e] at h;simp only[Ab3,Aar] at h;have:=Pm n r y (by simp at hn;omega) e;subst h;simp only[Ab6,if_true,Aaq,AaL,Abl];omega
   ·rw[Yl hq] at h;simp only[Aar] at h;subst h;simp
  ·by_cases h2:c<32
   ·rw[Wi h1 h2] at h;cases h
   ·rw[Yi h1 h2] at h
    cases e:AP l with
    | none=>rw[e] at h;cases h
    | some y=>
     rw[e] at h;simp only[Ab3,Aar] at h;have:=Pm n l y AdE e;subst h;simp only[Ab6,if_neg h1,Aaq,AaL,Abl];omega
theorem XF{l:List UInt8}{t:Ap}{k:Nat}(h:Dp l=some (t,k)):F0 t∧(BJ t).length≤k:=by
 unfold Dp at h
 split at h
 ·rename_i h0;have a0:As A6 l≠[]:=by
   have:=(Kq (p:=A6) (l:=l) (by
    cases l with
    | nil=>cases h0
    | cons a b=>simp) h0).1
   exact Ab8.1 this
  rw[P1 a0] at h
  split at h
  ·rename_i hc;simp only[Aar,Abz] at h;obtain⟨rfl,rfl⟩:=h;have hb:=ID (As A6 l) (λj hj=>by
    have hh:=Ij A6 l _ (AbL hj)
    simpa[DW hj] using hh)
   refine⟨.num hb.1 hc.1,?_⟩;exact WX _ _ (Abi _) (Ij A6 l) a0 hc.2
  ·cases h
 ·split at h
  ·unfold GF at h
   cases e:AP (l.drop 1) with
   | none=>rw[e] at h;cases h
   | some x=>
    rw[e] at h;simp only[Ab3,Aar,Abz] at h;obtain⟨rfl,rfl⟩:=h;have h1:=Mf _ e;have h2:=Pm _ _ x (Abi _) e;refine⟨.text h1.1,?_⟩;show(Eg x.1).length≤_;simp only[Eg,AaL,Aaq,Abl];omega
  ·split at h
   ·unfold Ip at h;simp only at h
    split at h
    ·rename_i hr;simp only[Aar,Abz] at h;obtain⟨rfl,rfl⟩:=h;obtain⟨h1,h2⟩:=Zj hr;refine⟨.ref h1,?_⟩;show(BR _).length≤_;rw[h2];exact Abi _
    ·rename_i hr
     split at h
     ·rename_i hf;simp only[Aar,Abz] at h;obtain⟨rfl,rfl⟩:=h;exact⟨.word hf Ae4,Abi _⟩
     ·cases h
   ·unfold H9 at h
    split at h
    ·simp only[Aar,Abz] at h;obtain⟨rfl,rfl⟩:=h;exact⟨.dead,Abi _⟩
    ·cases e:Bk.find? λs=>Lib.hasPrefix l s with
     | none=>rw[e] at h;cases h
     | some x=>
      rw[e] at h;simp only[Ab3,Aar,Abz] at h;obtain⟨rfl,rfl⟩:=h;exact⟨.sign (AcR e),Abi _⟩
theorem QQ:∀(n:Nat) (l:List UInt8) (a:Nat) {out:List Ap},l.length≤n→Gh l a=some out→(∀t∈out,nA t=Q8∨F0 (nA t))∧(out.flatMap BJ).length≤l.length
 | n,l,a,out,hn,h=>by
  cases e:l.drop (As JA l).length with
  | nil=>
   rw[G2 e] at h;simp only[Aar] at h;subst h;refine⟨λt ht=>?_,by simp[BJ]⟩;rw[Aad.1 ht]
   exact .inl rfl
  | cons c r=>
   have hl':=congrArg List.length e;simp at hl'
   cases ho:Dp (c::r) with
   | none=>rw[HR e AdM ho] at h;cases h
   | some x=>
    obtain⟨t,k⟩:=x;have hk:=G6 AdM ho;have hk2:=U1 ho;have hok:=XF ho;rw[I5 e AdM ho hk] at h
    cases hr:Gh ((c::r).drop k) (a+(As JA l).length+k) with
    | none=>rw[hr] at h;cases h
    | some y=>
     rw[hr] at h;simp only[Ab3,Aar] at h;subst h
     match n with
     | 0=>omega
     | n+1=>
      have hd:((c::r).drop k).length=r.length+1 - k:=AdM
      have ih:=QQ n ((c::r).drop k) _ AeA hr;rw[hd] at ih;have a0:k≤r.length+1:=hk2;refine⟨λt' ht=>?_,?_⟩
      ·rcases AaT.1 ht with rfl | ht
       ·refine .inr ?_;have:nA {t with at_:=((a+(As JA l).length:Nat):Int)}=t:=by
         cases hok.1<;>rfl
        rw[this];exact hok.1
       ·exact ih.1 t' ht
      ·rw[Ab6,Aaq];have:BJ {t with at_:=((a+(As JA l).length:Nat):Int)}=BJ t:=rfl;rw[this];have:=hok.2;have:=ih.2;omega
def Db(k:Int):Nat:=if k=8 then 5 else if 9≤k∧k≤14 then 1 else if k=15 then 2 else if k=16∨k=17 then 3 else if k=18∨k=19 then 4 else 6
def Tr.rank:{b:Bool}→Tr b→Nat
 | _,.neg _=>5
 | _,.two k _ _=>Db k
 | _,_=>6
def FL(k:Int):List UInt8:=Ka.getD (k - 9).toNat []
def C1(n:Ah):List Ap:=
 if n.kind=1 then[⟨1,[],n.num,Ba,0⟩]
 else if n.kind=2 then[⟨2,n.text,0,Ba,0⟩]
 else if n.kind=3 then[⟨3,if n.num=1 then DR else Dm,0,Ba,0⟩]
 else if n.kind=4 then[⟨6,[],0,Ba,0⟩]
 else if n.kind=5 then[⟨4,[],0,n.ref,0⟩]
 else[⟨4,[],0,n.ref,0⟩,sg [58],⟨4,[],0,n.to,0⟩]
def brk(b:Bool)(l:List Ap):List Ap:=if b then sg [40]::(l++[sg [41]]) else l
def Tr.toks:{b:Bool}→Tr b→List Ap
 | _,.leaf n=>C1 n
 | _,.neg a=>sg [45]::brk (decide (a.rank<5)) a.toks
 | _,.two k a b=>brk (decide (a.rank<Db k)) a.toks++sg (FL k)::brk (decide (b.rank<Db k+1)) b.toks
 | _,.call x .nil=>[⟨3,x,0,Ba,0⟩,sg [40],sg [41]]
 | _,.call x (.snoc rs a)=>⟨3,x,0,Ba,0⟩::sg [40]::(rs.toks++(a.toks++[sg [41]]))
 | _,.nil=>[]
 | _,.snoc ks a=>ks.toks++(a.toks++[sg [44]])
def Tr.text{b:Bool}(t:Tr b):List UInt8:=t.toks.flatMap BJ
def Tr.opt(n:Nat)(t:Tr false):List Ap:=brk (decide (t.rank<n)) t.toks
def Tr.Num{b:Bool}(t:Tr b):Prop:=∀k∈t.toks,k.num≤9223372036854775807
theorem Wk:∀o,o<11→Ka.getD o []∈Bk:=by decide
theorem IM{k:Int}(h0:9≤k)(h1:k≤19):FL k∈Bk:=Wk _ AdE
theorem Fg{b:Bool}{l:List Ap}{t:Ap}(h:t∈brk b l):t∈l∨t=sg [40]∨t=sg [41]:=by
 unfold brk at h
 split at h
 ·simp only[AaT,Abf,Abu,or_false] at h;rcases h with h | h | h
  ·exact .inr (.inl h)
  ·exact .inl h
  ·exact .inr (.inr h)
 ·exact .inl h
theorem Cg{b:Bool}{l:List Ap}{t:Ap}(h:t∈l):t∈brk b l:=by
 unfold brk
 split
 ·simp[h]
 ·exact h
theorem EL{n:Ah}(h:AB n=true):IE n=true:=by
 simp only[AB,AaY] at h;exact h.1
theorem Xx{n:Ah}(h0:1≤n.kind)(h1:n.kind≤6)(hp:AB n=true)(hn:∀k∈C1 n,k.num≤9223372036854775807):∀t∈C1 n,F0 t:=by
 have ho:=EL hp;intro t ht;have a0:F0 (sg [58]):=.sign AdH;have:n.kind=1∨n.kind=2∨n.kind=3∨n.kind=4∨n.kind=5∨n.kind=6:=AdE
 rcases this with h | h | h | h | h | h<;>simp only[C1,IE,h,if_true,if_false,Int.reduceEq,AaT,Abu,or_false,AaY,decide_eq_true_eq] at ht ho hn
 ·subst ht;exact .num ho (hn _ rfl)
 ·subst ht;exact .text ho
 ·subst ht
  split
  ·exact .word AdH Aee
  ·exact .word AdH Aee
 ·subst ht;exact .dead
 ·subst ht;exact .ref ho
 ·rcases ht with rfl | rfl | rfl
  ·exact .ref ho.1
  ·exact a0
  ·exact .ref ho.2.1
theorem JY{x:List UInt8}(h:CP x=true):F0 ⟨3,x,0,Ba,0⟩:=by
 simp only[CP,AaY,AcG] at h;exact .word h.1.1.1 h.1.1.2
theorem Tr.can:∀{b:Bool} (t:Tr b),t.Fit→t.Num→∀k∈t.toks,F0 k
 | _,.leaf n,hf,hn,k,hk=>Xx hf.1 hf.2.1 hf.2.2.2 hn k hk
 | _,.neg a,hf,hn,k,hk=>by
  have ha:=can a hf (λu hu=>hn u AdW);simp only[Tr.toks,AaT] at hk;rcases hk with rfl | hk
  ·exact .sign AdH
  ·rcases Fg hk with hk | rfl | rfl
   ·exact ha k hk
   ·exact .sign AdH
   ·exact .sign AdH
 | _,.two o a b,hf,hn,k,hk=>by
  have ha:=can a hf.2.2.1 (λu hu=>hn u AdT);have hb:=can b hf.2.2.2 (λu hu=>hn u AdS);simp only[Tr.toks,Abf,AaT] at hk;rcases hk with hk | rfl | hk
  ·rcases Fg hk with hk | rfl | rfl
   ·exact ha k hk
   ·exact .sign AdH
   ·exact .sign AdH
  ·exact .sign (IM hf.1 hf.2.1)
  ·rcases Fg hk with hk | rfl | rfl
   ·exact hb k hk
   ·exact .sign AdH
   ·exact .sign AdH
 | _,.call x .nil,hf,hn,k,hk=>by
  simp only[Tr.toks,AaT,Abu,or_false] at hk;rcases hk with rfl | rfl | rfl
  ·exact JY hf.1
  ·exact .sign AdH
  ·exact .sign AdH
 | _,.call x (.snoc rs a),hf,hn,k,hk=>by
  have hr:=can rs hf.2.1 (λu hu=>hn u AdN);have ha:=can a hf.2.2 (λu hu=>hn u AdN);simp only[Tr.toks,AaT,Abf,Abu,or_false] at hk;rcases hk with rfl | rfl | hk | hk | rfl
  ·exact JY hf.1
  ·exact .sign AdH
  ·exact hr k hk
  ·exact ha k hk
  ·exact .sign AdH
 | _,.nil,_,_,k,hk=>by cases hk
 | _,.snoc rs a,hf,hn,k,hk=>by
  have hr:=can rs hf.1 (λu hu=>hn u AdN);have ha:=can a hf.2 (λu hu=>hn u AdN);simp only[Tr.toks,Abf,AaT,Abu,or_false] at hk;rcases hk with hk | hk | rfl
  ·exact hr k hk
  ·exact ha k hk
  ·exact .sign AdH
def C6(l:List Ap):Prop:=l.flatMap BJ≠[]∧Aj (l.flatMap BJ) 0≠61∧Aj (l.flatMap BJ) 0≠62
theorem C6.app{l:List Ap}(h:C6 l)(m:List Ap):C6 (l++m):=by
 unfold C6 at h ⊢;rw[AbF,Eu h.1];exact⟨by simp[h.1],h.2⟩
theorem C6.cons{t:Ap}(h:BJ t≠[])(h1:Aj (BJ t) 0≠61)(h2:Aj (BJ t) 0≠62)(m:List Ap):C6 (t::m):=by
 unfold C6;rw[Ab6,Eu h];exact⟨by simp[h],h1,h2⟩
theorem C6.brk{l:List Ap}(h:C6 l)(b:Bool):C6 (Go.Proofs.YtcjjcnecopnpcaaGreatDoor.brk b l):=by
 unfold Go.Proofs.YtcjjcnecopnpcaaGreatDoor.brk
 split
 ·exact C6.cons (by simp[Dj]) (by rw[Dj];decide) (by rw[Dj];decide) _
 ·exact h
theorem Mu{t:Ap}(h:F0 t)(hk:t.kind≠5)(m:List Ap):C6 (t::m):=by
 have h0:=(KY h).1
 cases h with
 | @num z a0 h1=>
  refine C6.cons h0 ?_ ?_ m<;>
  ·show Aj (Lib.itoa z) 0≠_;rw[Gz a0];have:=(Mx z.toNat).1;simp only[A6,AaY,decide_eq_true_eq] at this
   omega
 | text hp=>exact C6.cons h0 (by show(34:Int)≠61;decide) (by show(34:Int)≠62;decide) m
 | word hf ho=>
  have:=K2 (LY (M6 hf).2.2.1)
  exact C6.cons h0 this.2.2.2.2.1 this.2.2.2.2.2 m
 | ref hm=>
  have:=K2 (Ns hm).2
  exact C6.cons h0 this.2.2.2.2.1 this.2.2.2.2.2 m
 | sign hs=>exact absurd rfl hk
 | dead=>exact C6.cons h0 AdH AdH m
theorem G0{n:Ah}(h0:1≤n.kind)(h1:n.kind≤6):∃t m,C1 n=t::m∧t.kind≠5∧(m=[]∨∃u,m=[sg [58],u]∧u.kind=4∧t.kind=4):=by
 have:n.kind=1∨n.kind=2∨n.kind=3∨n.kind=4∨n.kind=5∨n.kind=6:=AdE
 rcases this with h | h | h | h | h | h<;>simp only[C1,h,if_true,if_false,Int.reduceEq]
 ·exact⟨_,_,rfl,by simp,.inl rfl⟩
 ·exact⟨_,_,rfl,by simp,.inl rfl⟩
 ·exact⟨_,_,rfl,by simp,.inl rfl⟩
 ·exact⟨_,_,rfl,by simp,.inl rfl⟩
 ·exact⟨_,_,rfl,by simp,.inl rfl⟩
 ·exact⟨_,_,rfl,by simp,.inr ⟨_,rfl,rfl,rfl⟩⟩
theorem Tr.head:∀(t:Tr false),t.Fit→t.Num→C6 t.toks
 | .leaf n,hf,hn=>by
  obtain⟨t,m,e,hk,_⟩:=G0 hf.1 hf.2.1;have hc:=(Tr.leaf n).can hf hn t (by show t∈C1 n;rw[e];simp);show C6 (C1 n);rw[e]
  exact Mu hc hk m
 | .neg a,_,_=>C6.cons (by simp[Dj]) (by rw[Dj];decide) (by rw[Dj];decide) _
 | .two o a b,hf,hn=>by
  have ha:=head a hf.2.2.1 (λu hu=>hn u AdT)
  exact(ha.brk _).app _
 | .call x .nil,hf,_=>Mu (JY hf.1) AdM _
 | .call x (.snoc rs a),hf,_=>Mu (JY hf.1) AdM _
def UO(R:List UInt8):Prop:=A6 (Aj R 0)=false∧Aj R 0≠34∧Kx (Aj R 0)=false
theorem Hr{s:List UInt8}(h:s∈Bk)(B:List Ap):UO ((sg s::B).flatMap BJ):=by
 obtain⟨a0,a1,a2,a3,a4,a5,a6⟩:=Kk s h;rw[Ab6,Dj];unfold UO;rw[Eu a0];exact⟨a1,a2,a6⟩
theorem GC{t:Ap}(hk:t.kind≠5){R:List UInt8}(h:UO R):MX t R:=⟨λ_=>h.1,λ_=>h.2.1,λ_=>h.2.2,λe=>absurd e hk⟩
theorem Fm{s R:List UInt8}(h1:s≠[60])(h2:s≠[62]):MX (sg s) R:=⟨by simp[sg],by simp[sg],by simp[sg],λ_ e=>by rcases e with e | e<;>contradiction⟩
theorem Vx{s:List UInt8}{B:List Ap}(h:C6 B):MX (sg s) (B.flatMap BJ):=⟨by simp[sg],by simp[sg],by simp[sg],λ_ _=>h.2⟩
theorem MK{l:List Ap}(hl:∀B:List Ap,UO (B.flatMap BJ)→Pe B→Pe (l++B))(b:Bool):∀B:List Ap,UO (B.flatMap BJ)→Pe B→Pe (brk b l++B):=by
 intro B hs hB;unfold brk
 split
 ·simp only[AbQ,AaR,Ab5];exact⟨Fm AdH AdH,hl _ (Hr AdH B) ⟨Fm AdH AdH,hB⟩⟩
 ·exact hl B hs hB
theorem Tr.link:∀{b:Bool} (t:Tr b),t.Fit→t.Num→∀B:List Ap,(b=true∨UO (B.flatMap BJ))→Pe B→Pe (t.toks++B)
 | _,.leaf n,hf,hn,B,hs,hB=>by
  have hs:=hs.resolve_left AdM;obtain⟨t,m,e,hk,hm⟩:=G0 hf.1 hf.2.1;show Pe (C1 n++B);rw[e];rcases hm with rfl | ⟨u,rfl,hu,_⟩
  ·exact⟨GC hk hs,hB⟩
  ·exact⟨GC hk (Hr AdH _),Fm AdH AdH,GC AdE hs,hB⟩
 | _,.neg a,hf,hn,B,hs,hB=>by
  have hs:=hs.resolve_left AdM;have ha:=link a hf (λu hu=>hn u AdW)
  exact⟨Fm AdH AdH,MK (λB h1 h2=>ha B (.inr h1) h2) _ B hs hB⟩
 | _,.two o a b,hf,hn,B,hs,hB=>by
  have hs:=hs.resolve_left AdM;have hna:a.Num:=λu hu=>hn u AdT;have hnb:b.Num:=λu hu=>hn u AdS;have ha:=link a hf.2.2.1 hna;have hb:=link b hf.2.2.2 hnb;have hm:=IM hf.1 hf.2.1;simp only[Tr.toks,AaR,AbQ]
  exact MK (λB h1 h2=>ha B (.inr h1) h2) _ _ (Hr hm _) ⟨Vx (((b.head hf.2.2.2 hnb).brk _).app _),MK (λB h1 h2=>hb B (.inr h1) h2) _ B hs hB⟩
 | _,.call x .nil,hf,hn,B,hs,hB=>⟨GC AdM (Hr AdH _),Fm AdH AdH,Fm AdH AdH,hB⟩
 | _,.call x (.snoc rs a),hf,hn,B,hs,hB=>by
  have hr:=link rs hf.2.1 (λu hu=>hn u AdN);have ha:=link a hf.2.2 (λu hu=>hn u AdN);simp only[Tr.toks,AaR,AbQ,Ab5]
  exact⟨GC AdM (Hr AdH _),Fm AdH AdH,hr _ (.inl rfl) (ha _ (.inr (Hr AdH _)) ⟨Fm AdH AdH,hB⟩)⟩
 | _,.nil,_,_,B,_,hB=>hB
 | _,.snoc rs a,hf,hn,B,_,hB=>by
  have hr:=link rs hf.1 (λu hu=>hn u AdN);have ha:=link a hf.2 (λu hu=>hn u AdN);simp only[Tr.toks,AaR,AbQ,Ab5];exact hr _ (.inl rfl) (ha _ (.inr (Hr AdH _)) ⟨Fm AdH AdH,hB⟩)
theorem Tr.lex(t:Tr false)(hf:t.Fit)(hn:t.Num):∃T,Jq t.text=some T∧T.map nA=t.toks++[Q8]:=by
 have:=t.link hf hn [] (.inr ⟨rfl,by decide,rfl⟩) trivial;rw[Aby] at this;exact QS _ 0 (t.can hf hn) this
def IF(least r need:Nat):Nat:=if r<least then need+1 else need
def Tr.need:{b:Bool}→Tr b→Nat
 | _,.leaf _=>0
 | _,.neg a=>IF 5 a.rank a.need+1
 | _,.two k a b=>max (IF (Db k) a.rank a.need) (IF (Db k+1) b.rank b.need)
 | _,.call _ ks=>ks.need+1
 | _,.nil=>0
 | _,.snoc ks a=>max ks.need a.need
def Rb(n:Nat):FQ:=if n<4 then .lev n else if n=4 then .unary else .prim
theorem Ub{n:Nat}(h:n<4):below n=Rb (n+1):=by
 unfold below Rb;by_cases h3:n<3
 ·rw[if_pos h3,if_pos AdE]
 ·rw[if_neg h3,if_neg AdE,if_pos AdE]
def Left(T:List Ap)(s:Ch):List Ap:=(T.drop s.at_).map nA
theorem Dx{T:List Ap}{s:Ch}{u:Ap}{R:List Ap}(h:Left T s=u::R):(Ad T s).kind=u.kind∧(Ad T s).text=u.text∧(Ad T s).num=u.num∧(Ad T s).ref=u.ref:=by
 unfold Left at h;have:((T.drop s.at_).map nA)[0]?=some u:=by rw[h];rfl
 rw[Ab1,AcU,AbZ] at this
 cases e:T[s.at_]? with
 | none=>rw[e] at this;cases this
 | some t=>
  rw[e] at this;simp only[Ab3,Aar] at this;have et:Ad T s=t:=by simp[Ad,e]
  rw[et,←this];exact⟨rfl,rfl,rfl,rfl⟩
theorem Bp{T:List Ap}{s s':Ch}{w R:List Ap}(h:Left T s=w++R)(hs:s'.at_=s.at_+w.length):Left T s'=R:=by
 unfold Left at h ⊢;rw[hs,←List.drop_drop,List.map_drop,h,Ads]
theorem CJ{T:List Ap}{s:Ch}{u:Ap}{R:List Ap}(h:Left T s=u::R)(x:List UInt8):Cu T s x=(decide (u.kind=5)&&decide (u.text=x)):=by
 obtain⟨h1,h2,_⟩:=Dx h;rw[Cu,h1,h2]
def AaI(n:Nat)(u:Ap):Prop:=u.kind=5→u.text≠[58]∧∀m,n≤m→m<4→(BQ m).findIdx? (λx=>decide (x=u.text))=none
def Y4(n:Nat)(R:List Ap):Prop:=∃u B,R=u::B∧AaI n u
theorem Y4.mono{n m:Nat}{R:List Ap}(h:Y4 n R)(hm:n≤m):Y4 m R:=by
 obtain⟨u,B,e,hs⟩:=h;exact⟨u,B,e,λh5=>⟨(hs h5).1,λk hk=>(hs h5).2 k AdE⟩⟩
theorem YH(n:Nat):Y4 n [Q8]:=⟨_,_,rfl,λh=>by cases h⟩
theorem Xh(n:Nat)(B:List Ap):Y4 n (sg [41]::B):=⟨_,_,rfl,λ_=>⟨by decide,λm _ h4=>by
 have:∀m,m<4→(BQ m).findIdx? (λx=>decide (x=[41]))=none:=AdH
 exact this m h4⟩⟩
theorem ZU(n:Nat)(B:List Ap):Y4 n (sg [44]::B):=⟨_,_,rfl,λ_=>⟨by decide,λm _ h4=>by
 have:∀m,m<4→(BQ m).findIdx? (λx=>decide (x=[44]))=none:=AdH
 exact this m h4⟩⟩
theorem Zc{T:List Ap}{s:Ch}{R:List Ap}{n m:Nat}(h:Left T s=R)(hf:Y4 n R)(hn:n≤m)(h4:m<4):IV T s m=none:=by
 obtain⟨u,B,rfl,hs⟩:=hf;obtain⟨h1,h2,_⟩:=Dx h;unfold IV
 split
 ·rename_i h5;rw[h2];exact(hs (by rw[←h1];exact h5)).2 m hn h4
 ·rfl
theorem Aae:∀o,o<11→Ka.getD o []≠[58]∧∃n,n<4∧Db (9+(o:Int))=n+1∧(∃i,(BQ n).findIdx? (λx=>decide (x=Ka.getD o []))=some i∧(AL n).getD i 0=9+(o:Int))∧∀m,m<4→n+1≤m→(BQ m).findIdx? (λx=>decide (x=Ka.getD o []))=none:=by
 intro o ho;have:o=0∨o=1∨o=2∨o=3∨o=4∨o=5∨o=6∨o=7∨o=8∨o=9∨o=10:=AdE
 rcases this with rfl | rfl | rfl | rfl | rfl | rfl | rfl | rfl | rfl | rfl | rfl
 ·exact⟨by decide,0,by decide,rfl,⟨0,rfl,rfl⟩,by decide⟩
 ·exact⟨by decide,0,by decide,rfl,⟨1,rfl,rfl⟩,by decide⟩
 ·exact⟨by decide,0,by decide,rfl,⟨2,rfl,rfl⟩,by decide⟩
 ·exact⟨by decide,0,by decide,rfl,⟨3,rfl,rfl⟩,by decide⟩
 ·exact⟨by decide,0,by decide,rfl,⟨4,rfl,rfl⟩,by decide⟩
 ·exact⟨by decide,0,by decide,rfl,⟨5,rfl,rfl⟩,by decide⟩
 ·exact⟨by decide,1,by decide,rfl,⟨0,rfl,rfl⟩,by decide⟩
 ·exact⟨by decide,2,by decide,rfl,⟨0,rfl,rfl⟩,by decide⟩
 ·exact⟨by decide,2,by decide,rfl,⟨1,rfl,rfl⟩,by decide⟩
 ·exact⟨by decide,3,by decide,rfl,⟨0,rfl,rfl⟩,by decide⟩
 ·exact⟨by decide,3,by decide,rfl,⟨1,rfl,rfl⟩,by decide⟩
theorem U2{k:Int}(h0:9≤k)(h1:k≤19):FL k≠[58]∧∃n,n<4∧Db k=n+1∧(∃i,(BQ n).findIdx? (λx=>decide (x=FL k))=some i∧(AL n).getD i 0=k)∧∀m,m<4→n+1≤m→(BQ m).findIdx? (λx=>decide (x=FL k))=none:=by
 have:=Aae (k - 9).toNat AdE;rw[show 9+(((k - 9).toNat:Nat):Int)=k by omega] at this;exact this
def DM{b:Bool}(t:Tr b)(w:List Ap)(s:Ch):Ch:=⟨s.at_+w.length,s.out++t.flat s.out.length,s.deep⟩
def plc(t:Tr false)(s:Ch):Nat:=s.out.length+t.cnt - 1
def J2(d:Nat)(t:Tr false)(w:List Ap)(s:Ch):HG:=if s.deep+d≤12 then .ok (DM t w s) (plc t s) else .err 6
def Z0(t:Tr false)(d:Nat)(w:List Ap)(n:Nat):Prop:=∀(T:List Ap) (s:Ch) (R:List Ap) (r:HG),s.deep≤12→Left T s=w++R→Y4 (n+1) R→
 (if s.deep+d≤12 then PE T (.loop n (plc t s)) (DM t w s) r else r=.err 6)→PE T (.lev n) s r
def NK(t:Tr false)(d:Nat)(w:List Ap)(n:Nat):Prop:=∀(T:List Ap) (s:Ch) (R:List Ap),s.deep≤12→Left T s=w++R→Y4 n R→PE T (Rb n) s (J2 d t w s)
theorem Z0.m{t:Tr false}{d:Nat}{w:List Ap}{n:Nat}(h:Z0 t d w n)(hn:n<4):NK t d w n:=by
 intro T s R hs hl hf;have e:Rb n=.lev n:=by rw[Rb,if_pos hn]
 rw[e];refine h T s R _ hs hl (hf.mono AdE) ?_;unfold J2
 split
 ·exact .loop_end (Zc (Bp hl rfl) hf (Abi n) hn)
 ·rfl
theorem NK.k{t:Tr false}{d:Nat}{w:List Ap}{n:Nat}(h:NK t d w (n+1))(hn:n<4):Z0 t d w n:=by
 intro T s R r hs hl hf hr;have hp:=h T s R hs hl hf;rw[←Ub hn] at hp;unfold J2 at hp
 split at hp
 ·rename_i hd;rw[if_pos hd] at hr;exact .lev_ok hp hr
 ·rename_i hd;rw[if_neg hd] at hr;subst hr;exact .lev_err hp
theorem NK.down{t:Tr false}{d:Nat}{w:List Ap}(h:NK t d w 5)(hw:∃u v,w=u::v∧¬(u.kind=5∧u.text=[45])):∀k n,n+k=5→NK t d w n:=by
 have hu:NK t d w 4:=by
  intro T s R hs hl hf;obtain⟨u,v,rfl,hv⟩:=hw;have hp:=h T s R hs hl (hf.mono AdE);refine .un_prim ?_ hp;rw[CJ hl];by_cases h5:u.kind=5
  ·have:¬u.text=[45]:=λe=>hv ⟨h5,e⟩;simp[this]
  ·simp[h5]
 intro k
 induction k with
 | zero=>intro n hn;rw[show n=5 by omega];exact h
 | succ k ih=>
  intro n hn;by_cases h4:n=4
  ·rw[h4];exact hu
  ·exact(NK.k (ih (n+1) AdE) AdE).m AdE
theorem Ud{t:Tr false}(h:NK t t.need t.toks 0):NK t (t.need+1) (sg [40]::(t.toks++[sg [41]])) 5:=by
 intro T s R hs hl hf;have hl:Left T s=sg [40]::(t.toks++(sg [41]::R)):=by rw[hl];simp
 have hi:Cu T s [40]=true:=by rw[CJ hl];rfl
 show PE T .prim s _;by_cases hd:s.deep<12
 ·have a0:Left T (Az (Ax s))=t.toks++(sg [41]::R):=Bp (w:=[sg [40]]) hl rfl;have hp:=h T (Az (Ax s)) (sg [41]::R) AdY a0 (Xh 0 R);unfold J2 at hp ⊢;have a1:(Az (Ax s)).deep=s.deep+1:=rfl;rw[a1] at hp;by_cases hh:s.deep+1+t.need≤12
  ·rw[if_pos hh] at hp;rw[if_pos AdE];have a2:Left T (DM t t.toks (Az (Ax s)))=sg [41]::R:=Bp a0 rfl;have a3:Cu T (DM t t.toks (Az (Ax s))) [41]=true:=by rw[CJ a2];rfl
   have:=PE.pr_ok hi hd hp a3;have e:CE (Ax (DM t t.toks (Az (Ax s))))=DM t (sg [40]::(t.toks++[sg [41]])) s:=by
    simp only[CE,Ax,DM,Az,Ch.mk.injEq,AaL,Aaq,Abl];exact⟨by omega,trivial,by omega⟩
   rw[e] at this;exact this
  ·rw[if_neg hh] at hp;rw[if_neg AdE];exact .pr_err hi hd hp
 ·unfold J2;rw[if_neg AdE];exact .pr_deep hi AdE
theorem U3{t:Tr false}(h0:NK t t.need t.toks 0)(hm:∀n,n+1≤t.rank→NK t t.need t.toks n){n:Nat}(hn:n≤5):NK t (IF (n+1) t.rank t.need) (brk (decide (t.rank<n+1)) t.toks) n:=by
 unfold IF brk;by_cases hr:t.rank<n+1
 ·rw[if_pos hr,if_pos Ae4];exact(Ud h0).down ⟨_,_,rfl,by rintro⟨_,e⟩;cases e⟩ (5 - n) n AdE
 ·rw[if_neg hr,if_neg Ae4];exact hm n AdE
theorem XH{t:Tr false}(h0:NK t t.need t.toks 0)(hk:∀n,n<4→n+1≤t.rank→Z0 t t.need t.toks n){n:Nat}(hn:n<4):Z0 t (IF (n+1) t.rank t.need) (brk (decide (t.rank<n+1)) t.toks) n:=by
 unfold IF brk;by_cases hr:t.rank<n+1
 ·rw[if_pos hr,if_pos Ae4];exact((Ud h0).down ⟨_,_,rfl,by rintro⟨_,e⟩;cases e⟩ (5 - (n+1)) (n+1) AdE).k hn
 ·rw[if_neg hr,if_neg Ae4];exact hk n hn AdE
theorem Yb{k:Int}(h0:9≤k)(h1:k≤19):1≤Db k∧Db k≤4:=by
 obtain⟨_,n,hn,e,_⟩:=U2 h0 h1;omega
theorem Tr.rank_le:∀(t:Tr false),t.Fit→1≤t.rank∧t.rank≤6
 | .leaf _,_=>by simp[Tr.rank]
 | .neg _,_=>by simp[Tr.rank]
 | .two k _ _,h=>by have:=Yb h.1 h.2.1;simp only[Tr.rank];omega
 | .call _ _,_=>by simp[Tr.rank]
theorem YQ{n:Ah}(h0:1≤n.kind)(h1:n.kind≤6)(hk:n.kids=[])(hp:AB n=true):NK (.leaf n) 0 (C1 n) 5:=by
 intro T s R hs hl hf;show PE T .prim s _;unfold J2;rw[if_pos AdE];have ho:=EL hp;have a2:plc (.leaf n) s=s.out.length:=by simp[plc,Tr.cnt]
 rw[a2];have hb:=hp;simp only[AB,AaY,decide_eq_true_eq] at hb;have a0:∀w:List Ap,DM (.leaf n) w s=BS ⟨s.at_+w.length,s.out,s.deep⟩ n:=λw=>by simp[DM,BS,Tr.flat]
 rw[a0];have:n.kind=1∨n.kind=2∨n.kind=3∨n.kind=4∨n.kind=5∨n.kind=6:=AdE
 rcases this with h | h | h | h | h | h<;>simp only[C1,IE,Bl,h,if_true,if_false,Int.reduceEq,AaY,decide_eq_true_eq,AbP,true_and,and_true,AbQ,Ab5] at hl ho hb ⊢
 ·obtain⟨t1,t2,t3,t4⟩:=Dx hl;have e:n={kind:=1,num:=(Ad T s).num}:=by cases n;simp_all
  rw[e];exact .pr_num t1
 ·obtain⟨t1,t2,t3,t4⟩:=Dx hl;have e:n={kind:=2,text:=(Ad T s).text}:=by cases n;simp_all
  rw[e];exact .pr_text t1
 ·obtain⟨t1,t2,t3,t4⟩:=Dx hl;rcases ho with ho | ho
  ·rw[if_neg AdE] at t2;have e:n={kind:=3}:=by cases n;simp_all
   rw[e];exact .pr_false t1 t2
  ·rw[if_pos ho] at t2;have e:n={kind:=3,num:=1}:=by cases n;simp_all
   rw[e];exact .pr_true t1 t2
 ·obtain⟨t1,t2,t3,t4⟩:=Dx hl;have e:n={kind:=4}:=by cases n;simp_all
  rw[e];exact .pr_dead t1
 ·obtain⟨t1,t2,t3,t4⟩:=Dx hl;have e:n={kind:=5,ref:=(Ad T s).ref}:=by cases n;simp_all
  rw[e];refine .pr_ref t1 ?_;obtain⟨u,B,rfl,hu⟩:=hf;have a1:Left T (Ax s)=u::B:=Bp (w:=[_]) hl rfl;rw[CJ a1];by_cases h5:u.kind=5
  ·simp[(hu h5).1]
  ·simp[h5]
 ·obtain⟨t1,t2,t3,t4⟩:=Dx hl;have a1:Left T (Ax s)=sg [58]::⟨4,[],0,n.to,0⟩::R:=Bp (w:=[_]) hl rfl;have a3:Left T (Ax (Ax s))=⟨4,[],0,n.to,0⟩::R:=Bp (w:=[_]) a1 rfl;obtain⟨q1,q2,q3,q4⟩:=Dx a3;have e:n={kind:=6,ref:=(Ad T s).ref,to:=(Ad T (Ax (Ax s))).ref}:=by cases n;simp_all
  have hr:BL (Ad T s).ref (Ad T (Ax (Ax s))).ref=true:=by rw[t4,q4];exact ho.2.2
  have hi:Cu T (Ax s) [58]=true:=by rw[CJ a1];rfl
  rw[e];exact .pr_range t1 hi q1 hr
def GoR(ks:Tr true):Prop:=∀(T:List Ap) (s:Ch) (R:List Ap) (x:List UInt8) (k0:List Int) (r:HG),s.deep≤12→Left T s=ks.toks++R→
 (if s.deep+ks.need≤12 then PE T (.args x (k0++ks.kids s.out.length)) (DM ks ks.toks s) r else r=.err 6)→PE T (.args x k0) s r
def Z1:{b:Bool}→Tr b→Prop
 | false,t=>(∀n,n+1≤t.rank→NK t t.need t.toks n)∧∀n,n<4→n+1≤t.rank→Z0 t t.need t.toks n
 | true,ks=>GoR ks
theorem L8{x:List UInt8}(h:CP x=true):x≠DR∧x≠Dm:=by
 simp only[CP,AaY,AcG,decide_eq_false_iff_not] at h;exact⟨h.1.2,h.2⟩
theorem SP{t:Tr false}(h5:NK t t.need t.toks 5)(hw:∃u v,t.toks=u::v∧¬(u.kind=5∧u.text=[45]))(hr:t.rank=6):Z1 t:=by
 have hd:=h5.down hw;refine⟨λn hn=>hd (5 - n) n AdE,λn hn _=>(hd (5 - (n+1)) (n+1) AdE).k hn⟩
theorem Up{t:Tr false}{m:Nat}(hr:t.rank=m+1)(hm4:m≤4)(h:NK t t.need t.toks m)(hk:m<4→Z0 t t.need t.toks m):Z1 t:=by
 have key:∀k n,n+k=m→NK t t.need t.toks n:=by
  intro k
  induction k with
  | zero=>intro n hn;rw[show n=m by omega];exact h
  | succ k ih=>intro n hn;exact(NK.k (ih (n+1) AdE) AdE).m AdE
 refine⟨λn hn=>key (m - n) n AdE,λn hn h1=>?_⟩;by_cases e:n=m
 ·subst e;exact hk hn
 ·exact(key (m - (n+1)) (n+1) AdE).k hn
def JB(l:List Ap):Prop:=∃u v,l=u::v∧¬(u.kind=5∧u.text=[41])
theorem JB.app{l:List Ap}(h:JB l)(m:List Ap):JB (l++m):=by
 obtain⟨u,v,rfl,hu⟩:=h;exact⟨u,v++m,rfl,hu⟩
theorem JB.brk{l:List Ap}(h:JB l)(b:Bool):JB (Go.Proofs.YtcjjcnecopnpcaaGreatDoor.brk b l):=by
 unfold Go.Proofs.YtcjjcnecopnpcaaGreatDoor.brk
 split
 ·exact⟨_,_,rfl,by rintro⟨_,e⟩;cases e⟩
 ·exact h
theorem Tr.first:∀{b:Bool} (t:Tr b),t.Fit→(b=true∧t.toks=[])∨JB t.toks
 | _,.leaf n,hf=>by
  obtain⟨u,m,e,hk,_⟩:=G0 hf.1 hf.2.1
  exact .inr ⟨u,m,e,λh=>hk h.1⟩
 | _,.neg a,_=>.inr ⟨_,_,rfl,by rintro⟨_,e⟩;cases e⟩
 | _,.two k a b,hf=>by
  rcases first a hf.2.2.1 with h | h
  ·cases h.1
  ·exact .inr ((h.brk _).app _)
 | _,.call x .nil,_=>.inr ⟨_,_,rfl,by rintro⟨e,_⟩;cases e⟩
 | _,.call x (.snoc rs a),_=>.inr ⟨_,_,rfl,by rintro⟨e,_⟩;cases e⟩
 | _,.nil,_=>.inl ⟨rfl,rfl⟩
 | _,.snoc rs a,hf=>by
  rcases first a hf.2 with h | h
  ·cases h.1
  ·rcases first rs hf.1 with h2 | h2
   ·refine .inr ?_;simp only[Tr.toks,h2.2,Ab5];exact h.app _
   ·exact .inr (h2.app _)
theorem Vp{T:List Ap}{s:Ch}{l:List Ap}(h:JB l)(hl:Left T s=l):Cu T s [41]=false:=by
 obtain⟨u,v,rfl,hu⟩:=h;rw[CJ hl];by_cases h5:u.kind=5
 ·have:¬u.text=[41]:=λe=>hu ⟨h5,e⟩;simp[this]
 ·simp[h5]
theorem Tr.go:∀{b:Bool} (t:Tr b),t.Fit→Z1 t
 | _,.leaf n,hf=>by
  obtain⟨u,m,e,hk,_⟩:=G0 hf.1 hf.2.1
  exact SP (YQ hf.1 hf.2.1 hf.2.2.1 hf.2.2.2) ⟨u,m,e,λh=>hk h.1⟩ rfl
 | _,.neg a,hf=>by
  have ga:Z1 a:=go a hf;have hr:=Tr.rank_le a hf;have hop:NK a (IF 5 a.rank a.need) (brk (decide (a.rank<5)) a.toks) 4:=U3 (ga.1 0 AdE) ga.1 (n:=4) AdE;refine Up (m:=4) rfl (Abi _) ?_ (λh=>absurd h AdE);intro T s R hs hl hfol;have hl:Left T s=sg [45]::(brk (decide (a.rank<5)) a.toks++R):=hl;have hi:Cu T s [45]=true:=by rw[CJ hl];rfl
  show PE T .unary s _;have a0:(Tr.neg a).need=IF 5 a.rank a.need+1:=rfl;by_cases hd:s.deep<12
  ·have a1:Left T (Az (Ax s))=brk (decide (a.rank<5)) a.toks++R:=Bp (w:=[_]) hl rfl;have hp:=hop T (Az (Ax s)) R AdY a1 hfol;unfold J2 at hp ⊢;have a6:(Az (Ax s)).deep=s.deep+1:=rfl;rw[a6] at hp;rw[a0];by_cases hh:s.deep+1+IF 5 a.rank a.need≤12
   ·rw[if_pos hh] at hp;rw[if_pos AdE];have:=PE.un_ok hi hd hp;have e:BS (CE (DM a (brk (decide (a.rank<5)) a.toks) (Az (Ax s)))) {kind:=8,kids:=[((plc a (Az (Ax s)):Nat):Int)]}=DM (.neg a) (Tr.neg a).toks s:=by
     simp only[BS,CE,DM,Az,Ax,Tr.flat,Tr.toks,Ch.mk.injEq,AaL,AaR,plc];exact⟨by omega,trivial,by omega⟩
    have e2:(DM a (brk (decide (a.rank<5)) a.toks) (Az (Ax s))).out.length=plc (.neg a) s:=by
     simp only[DM,Az,Ax,plc,Tr.cnt,Aaq,Tr.flat_len];omega
    rw[e,e2] at this;exact this
   ·rw[if_neg hh] at hp;rw[if_neg AdE];exact .un_err hi hd hp
  ·unfold J2;rw[if_neg AdE]
   exact .un_deep hi AdE
 | _,.two k a b,hf=>by
  have ga:Z1 a:=go a hf.2.2.1;have gb:Z1 b:=go b hf.2.2.2;have ra:=Tr.rank_le a hf.2.2.1;have rb:=Tr.rank_le b hf.2.2.2;obtain⟨aj,n,hn,ac,⟨i,hi,ak⟩,al⟩:=U2 hf.1 hf.2.1;have hA:=XH (ga.1 0 AdE) ga.2 hn;have hB:=U3 (gb.1 0 AdE) gb.1 (n:=n+1) AdE;have a0:(Tr.two k a b).need=max (IF (n+1) a.rank a.need) (IF (n+1+1) b.rank b.need):=by simp only[Tr.need,ac]
  have a2:(Tr.two k a b).toks=brk (decide (a.rank<n+1)) a.toks++sg (FL k)::brk (decide (b.rank<n+1+1)) b.toks:=by simp only[Tr.toks,ac]
  have hK:Z0 (.two k a b) (Tr.two k a b).need (Tr.two k a b).toks n:=by
   intro T s R r hs hl hfol hr;rw[a2,AaR,AbQ] at hl;have am:Y4 (n+1) (sg (FL k)::(brk (decide (b.rank<n+1+1)) b.toks++R)):=⟨_,_,rfl,λ_=>⟨aj,λm h1 h2=>al m h2 h1⟩⟩;refine hA T s _ r hs hl am ?_
   split
   ·rename_i a3;have a1:Left T (DM a (brk (decide (a.rank<n+1)) a.toks) s)=sg (FL k)::(brk (decide (b.rank<n+1+1)) b.toks++R):=Bp hl rfl;obtain⟨t1,t2,_⟩:=Dx a1;have hop:IV T (DM a (brk (decide (a.rank<n+1)) a.toks) s) n=some i:=by
     unfold IV;rw[if_pos (show _=(5:Int) from t1),t2];exact hi
    have a4:Left T (Ax (DM a (brk (decide (a.rank<n+1)) a.toks) s))=brk (decide (b.rank<n+1+1)) b.toks++R:=Bp (w:=[_]) a1 rfl;have hp:=hB T (Ax (DM a (brk (decide (a.rank<n+1)) a.toks) s)) R hs a4 hfol;rw[←Ub hn] at hp;unfold J2 at hp;have a6:(Ax (DM a (brk (decide (a.rank<n+1)) a.toks) s)).deep=s.deep:=rfl;rw[a6] at hp;by_cases ai:s.deep+IF (n+1+1) b.rank b.need≤12
    ·rw[if_pos ai] at hp;rw[if_pos Aez] at hr;refine .loop_go hop hp ?_;rw[ak];have e:BS (DM b (brk (decide (b.rank<n+1+1)) b.toks) (Ax (DM a (brk (decide (a.rank<n+1)) a.toks) s))) {kind:=k,kids:=[((plc a s:Nat):Int),((plc b (Ax (DM a (brk (decide (a.rank<n+1)) a.toks) s)):Nat):Int)]}=DM (.two k a b) (Tr.two k a b).toks s:=by
      rw[a2];simp only[BS,DM,Ax,Tr.flat,Ch.mk.injEq,Aaq,AaL,AaR,plc,Tr.flat_len];exact⟨by omega,trivial,trivial⟩
     have e2:(DM b (brk (decide (b.rank<n+1+1)) b.toks) (Ax (DM a (brk (decide (a.rank<n+1)) a.toks) s))).out.length=plc (.two k a b) s:=by
      simp only[DM,Ax,plc,Tr.cnt,Aaq,Tr.flat_len];omega
     rw[e,e2];exact hr
    ·rw[if_neg ai] at hp;rw[if_neg Aez] at hr;subst hr;exact .loop_err hop hp
   ·rename_i a3;rw[if_neg Aez] at hr;exact hr
  exact Up (m:=n) (by simp only[Tr.rank,ac]) AdE (hK.m hn) (λ_=>hK)
 | _,.call x .nil,hf=>by
  obtain⟨a7,a8⟩:=L8 hf.1;refine SP ?_ ⟨_,_,rfl,by rintro⟨e,_⟩;cases e⟩ rfl;intro T s R hs hl hfol;have hl:Left T s=⟨3,x,0,Ba,0⟩::sg [40]::sg [41]::R:=hl;obtain⟨t1,t2,_⟩:=Dx hl;have a1:Left T (Ax s)=sg [40]::sg [41]::R:=Bp (w:=[_]) hl rfl;have a4:Left T (Az (Ax (Ax s)))=sg [41]::R:=Bp (w:=[_]) a1 rfl;have a9:Cu T (Ax s) [40]=true:=by rw[CJ a1];rfl
  have ad:Cu T (Az (Ax (Ax s))) [41]=true:=by rw[CJ a4];rfl
  show PE T .prim s _;unfold J2;by_cases hd:s.deep<12
  ·rw[if_pos AdY];have:=PE.pr_call0 t1 (by rw[t2];exact a7) (by rw[t2];exact a8) a9 hd ad;rw[t2] at this;exact this
  ·rw[if_neg (by show ¬s.deep+1≤12;omega)]
   exact .pr_calldeep t1 (by rw[t2];exact a7) (by rw[t2];exact a8) a9 AdE
 | _,.call x (.snoc rs a),hf=>by
  obtain⟨a7,a8⟩:=L8 hf.1;have gr:GoR rs:=go rs hf.2.1;have ga:Z1 a:=go a hf.2.2;have ra:=Tr.rank_le a hf.2.2;have a5:JB (rs.toks++(a.toks++[sg [41]])):=by
   rcases Tr.first a hf.2.2 with h | h
   ·cases h.1
   ·rcases Tr.first rs hf.2.1 with h2 | h2
    ·rw[h2.2,Ab5];exact h.app _
    ·exact h2.app _
  refine SP ?_ ⟨_,_,rfl,by rintro⟨e,_⟩;cases e⟩ rfl;intro T s R hs hl hfol;have hl:Left T s=⟨3,x,0,Ba,0⟩::sg [40]::(rs.toks++(a.toks++(sg [41]::R))):=by rw[hl];simp[Tr.toks]
  obtain⟨t1,t2,_⟩:=Dx hl;have a1:Left T (Ax s)=sg [40]::(rs.toks++(a.toks++(sg [41]::R))):=Bp (w:=[_]) hl rfl;have a4:Left T (Az (Ax (Ax s)))=rs.toks++(a.toks++(sg [41]::R)):=Bp (w:=[_]) a1 rfl;have a9:Cu T (Ax s) [40]=true:=by rw[CJ a1];rfl
  have ad:Cu T (Az (Ax (Ax s))) [41]=false:=by
   refine Vp (a5.app R) ?_;rw[a4];simp
  have a0:(Tr.call x (.snoc rs a)).need=max rs.need a.need+1:=rfl;show PE T .prim s _;unfold J2;by_cases hd:s.deep<12
  ·refine .pr_call t1 (by rw[t2];exact a7) (by rw[t2];exact a8) a9 hd ad ?_;rw[t2];refine gr T (Az (Ax (Ax s))) _ x [] _ AdY a4 ?_;have a6:(Az (Ax (Ax s))).deep=s.deep+1:=rfl;rw[a6,a0]
   split
   ·rename_i ae;have aa:Left T (DM rs rs.toks (Az (Ax (Ax s))))=a.toks++(sg [41]::R):=Bp a4 rfl;have hp:=ga.1 0 AdE T (DM rs rs.toks (Az (Ax (Ax s)))) _ AdY aa (Xh 0 R);unfold J2 at hp;have af:(DM rs rs.toks (Az (Ax (Ax s)))).deep=s.deep+1:=rfl;rw[af] at hp;by_cases a3:s.deep+1+a.need≤12
    ·rw[if_pos a3] at hp;rw[if_pos AdE];have ab:Left T (DM a a.toks (DM rs rs.toks (Az (Ax (Ax s)))))=sg [41]::R:=Bp aa rfl;have ag:Cu T (DM a a.toks (DM rs rs.toks (Az (Ax (Ax s))))) [44]=false:=by rw[CJ ab];rfl
     have ah:Cu T (DM a a.toks (DM rs rs.toks (Az (Ax (Ax s))))) [41]=true:=by rw[CJ ab];rfl
     have:=PE.ar_end (x:=x) (ks:=[]++rs.kids (Az (Ax (Ax s))).out.length) hp ag ah;have e:BS (CE (Ax (DM a a.toks (DM rs rs.toks (Az (Ax (Ax s))))))) {kind:=7,text:=x,kids:=[]++rs.kids (Az (Ax (Ax s))).out.length++[((plc a (DM rs rs.toks (Az (Ax (Ax s)))):Nat):Int)]}=DM (.call x (.snoc rs a)) (Tr.call x (.snoc rs a)).toks s:=by
      simp only[BS,CE,DM,Az,Ax,Tr.flat,Tr.toks,Tr.kids,Ch.mk.injEq,AaL,Aaq,Abl,AaR,plc,Tr.flat_len,Ab5];exact⟨by omega,trivial,by omega⟩
     have e2:(DM a a.toks (DM rs rs.toks (Az (Ax (Ax s))))).out.length=plc (.call x (.snoc rs a)) s:=by
      simp only[DM,Az,Ax,plc,Tr.cnt,Aaq,Tr.flat_len];omega
     rw[e,e2] at this;exact this
    ·rw[if_neg a3] at hp;rw[if_neg AdE];exact .ar_err hp
   ·rename_i ae;rw[if_neg AdE]
  ·rw[if_neg AdE]
   exact .pr_calldeep t1 (by rw[t2];exact a7) (by rw[t2];exact a8) a9 AdE
 | _,.nil,_=>by
  intro T s R x k0 r hs hl hr;have e:DM Tr.nil Tr.nil.toks s=s:=by simp[DM,Tr.toks,Tr.flat]
  rw[e,if_pos (by show s.deep+0≤12;omega)] at hr
  simpa[Tr.kids] using hr
 | _,.snoc rs a,hf=>by
  have gr:GoR rs:=go rs hf.1;have ga:Z1 a:=go a hf.2;have ra:=Tr.rank_le a hf.2;intro T s R x k0 r hs hl hr;have hl:Left T s=rs.toks++(a.toks++(sg [44]::R)):=by rw[hl];simp[Tr.toks]
  have a0:(Tr.snoc rs a).need=max rs.need a.need:=rfl;rw[a0] at hr;refine gr T s _ x k0 r hs hl ?_
  split
  ·rename_i ae;have aa:Left T (DM rs rs.toks s)=a.toks++(sg [44]::R):=Bp hl rfl;have hp:=ga.1 0 AdE T (DM rs rs.toks s) _ hs aa (ZU 0 R);unfold J2 at hp;have af:(DM rs rs.toks s).deep=s.deep:=rfl;rw[af] at hp;by_cases a3:s.deep+a.need≤12
   ·rw[if_pos a3] at hp;rw[if_pos AdE] at hr;have ab:Left T (DM a a.toks (DM rs rs.toks s))=sg [44]::R:=Bp aa rfl;have ag:Cu T (DM a a.toks (DM rs rs.toks s)) [44]=true:=by rw[CJ ab];rfl
    refine .ar_go hp ag ?_;have e:Ax (DM a a.toks (DM rs rs.toks s))=DM (.snoc rs a) (Tr.snoc rs a).toks s:=by
     simp only[DM,Ax,Tr.flat,Tr.toks,Ch.mk.injEq,AaL,Aaq,Abl,AaR,Tr.flat_len];exact⟨by omega,trivial,trivial⟩
    have e2:k0++rs.kids s.out.length++[((plc a (DM rs rs.toks s):Nat):Int)]=k0++(Tr.snoc rs a).kids s.out.length:=by
     simp only[DM,plc,Tr.kids,Aaq,Tr.flat_len,AaR]
    rw[e,e2];exact hr
   ·rw[if_neg a3] at hp;rw[if_neg AdE] at hr;subst hr;exact .ar_err hp
  ·rename_i ae;rw[if_neg AdE] at hr;exact hr
theorem Tr.again(t:Tr false)(hf:t.Fit){T:List Ap}(hT:T.map nA=t.toks++[Q8]):DF T (if t.need≤12 then .ok (t.flat 0) else .error 6):=by
 have hg:=(t.go hf).1 0 (by have:=Tr.rank_le t hf;omega) T ⟨0,[],0⟩ [Q8] AdM hT (YH 0);have hg:PE T (.lev 0) ⟨0,[],0⟩ (J2 t.need t t.toks ⟨0,[],0⟩):=hg;unfold J2 at hg;simp only[AbC] at hg;by_cases h:t.need≤12
 ·rw[if_pos h] at hg ⊢;refine⟨_,_,hg,?_,by simp[DM]⟩;have:Left T (DM t t.toks ⟨0,[],0⟩)=[Q8]:=Bp (s:=⟨0,[],0⟩) (w:=t.toks) hT rfl;exact(Dx this).1
 ·rw[if_neg h] at hg ⊢;exact .inl hg
def W(l:List Ap):Nat:=(l.flatMap BJ).length
theorem JI:W []=0:=rfl
theorem De(t:Ap)(l:List Ap):W (t::l)=(BJ t).length+W l:=by simp[W]
theorem JH(l m:List Ap):W (l++m)=W l+W m:=by simp[W]
theorem Mn(s:List UInt8):(BJ (sg s)).length=s.length:=rfl
theorem WF(b:Bool)(l:List Ap):W (brk b l)=W l+if b then 2 else 0:=by
 cases b
 ·simp[brk]
 ·simp only[brk,if_true,De,JH,JI,Mn,AaL,Abl];omega
def pw(T:List Ap)(i:Nat):Nat:=W (T.take i)
theorem Zi(T:List Ap)(i:Nat):pw T (i+1)=pw T i+(BJ (T.getD i Yw)).length:=by
 unfold pw;rcases AbI i T.length with h | h
 ·rw[Ab7,Aap h,JH,AaF,Aap h];simp[W]
 ·rw[Acy h,Acy AdE,AaF,Abs h];rfl
theorem CK(T:List Ap)(s:Ch):pw T (s.at_+1)=pw T s.at_+(BJ (Ad T s)).length:=Zi T s.at_
theorem AaE(T:List Ap)(i:Nat):pw T i≤W T:=by
 have:=JH (T.take i) (T.drop i);rw[List.take_append_drop] at this;unfold pw;omega
theorem HY(t:Tr false)(L:Nat):W (t.opt L)=W t.toks+if t.rank<L then 2 else 0:=by
 rw[Tr.opt,WF];by_cases h:t.rank<L<;>simp[h]
theorem Abc{t:Ap}(h:F0 t)(k:t.kind=1):t=⟨1,[],t.num,Ba,0⟩∧0≤t.num∧t.num≤9223372036854775807:=by
 cases h<;>simp_all [sg]
theorem Abd{t:Ap}(h:F0 t)(k:t.kind=2):t=⟨2,t.text,0,Ba,0⟩∧NR t.text=true:=by
 cases h<;>simp_all [sg]
theorem AaK{t:Ap}(h:F0 t)(k:t.kind=3):t=⟨3,t.text,0,Ba,0⟩∧NH t.text=true∧Br t.text=false:=by
 cases h<;>simp_all [sg]
theorem Aan{t:Ap}(h:F0 t)(k:t.kind=4):t=⟨4,[],0,t.ref,0⟩∧Bz t.ref=true:=by
 cases h<;>simp_all [sg]
theorem Abe{t:Ap}(h:F0 t)(k:t.kind=6):t=⟨6,[],0,Ba,0⟩:=by
 cases h<;>simp_all [sg]
def Aat(T:List Ap):Prop:=∀t∈T,nA t=Q8∨F0 (nA t)
theorem Ga{T:List Ap}(h:Aat T){s:Ch}(hk:(Ad T s).kind≠0):F0 (nA (Ad T s)):=by
 rcases AbI s.at_ T.length with hl | hl
 ·have e:Ad T s=T[s.at_]:=by simp[Ad,Aap hl]
  rw[e] at hk ⊢;rcases h _ (AbL hl) with h | h
  ·have:(nA T[s.at_]).kind=0:=by rw[h];rfl
   exact absurd this hk
  ·exact h
 ·have e:Ad T s=Yw:=by simp[Ad,Abs hl]
  rw[e] at hk;exact absurd rfl hk
theorem Fh{T:List Ap}{s:Ch}{x:List UInt8}(h:Cu T s x=true):(BJ (Ad T s)).length=x.length:=by
 obtain⟨h1,h2⟩:=Xq h;simp[BJ,h1,h2]
theorem Ro:∀n,n<4→∀i,i<(BQ n).length→9≤(AL n).getD i 0∧(AL n).getD i 0≤19∧Db ((AL n).getD i 0)=n+1∧FL ((AL n).getD i 0)=(BQ n).getD i []:=by decide
theorem Zd{T:List Ap}{s:Ch}{n i:Nat}(hn:n<4)(h:IV T s n=some i):9≤(AL n).getD i 0∧(AL n).getD i 0≤19∧Db ((AL n).getD i 0)=n+1∧(BJ (Ad T s)).length=(FL ((AL n).getD i 0)).length:=by
 unfold IV at h
 split at h
 ·rename_i h5;obtain⟨hi,hp,_⟩:=Ab2.1 h;obtain⟨a1,a2,a3,a4⟩:=Ro n hn i hi;refine⟨a1,a2,a3,?_⟩;have ht:(BQ n)[i]=(Ad T s).text:=by simpa using hp
  rw[a4,AaF,Aap hi];simp[BJ,h5,ht]
 ·cases h
structure Rt(T:List Ap)(L:Nat)(s s1:Ch)(b:Nat)(t:Tr false):Prop where
 fit:t.Fit
 num:t.Num
 out:s1.out=s.out++t.flat s.out.length
 plc:b=s.out.length+t.cnt - 1
 deep:s1.deep=s.deep
 need:s.deep+IF L t.rank t.need≤12
 wid:W (t.opt L)+pw T s.at_≤pw T s1.at_
structure Lt(T:List Ap)(n:Nat)(s s1:Ch)(b:Nat)(o:List Ah)(ta t:Tr false):Prop where
 fit:t.Fit
 num:t.Num
 out:s1.out=o++t.flat o.length
 plc:b=o.length+t.cnt - 1
 deep:s1.deep=s.deep
 need:s.deep+IF (n+1) t.rank t.need≤12
 wid:W (t.opt (n+1))+pw T s.at_≤W (ta.opt (n+1))+pw T s1.at_
structure At(T:List Ap)(s s1:Ch)(b:Nat)(o:List Ah)(x:List UInt8)(rs:Tr true)(r1:Tr true)(a1:Tr false):Prop where
 fit:(Tr.call x (.snoc r1 a1)).Fit
 num:r1.Num∧a1.Num
 out:s1.out=o++(Tr.call x (.snoc r1 a1)).flat o.length
 plc:b=o.length+(Tr.call x (.snoc r1 a1)).cnt - 1
 deep:s1.deep=s.deep - 1
 need:s.deep+(Tr.snoc r1 a1).need≤12
 wid:W r1.toks+W a1.toks+1+pw T s.at_≤W rs.toks+pw T s1.at_
def Aay(T:List Ap)(m:FQ)(s:Ch):HG→Prop
 | .err _=>True
 | .ok s1 b=>s.deep≤12→match m with
  | .lev n=>n<4→∃t,Rt T (n+1) s s1 b t
  | .unary=>∃t,Rt T 5 s s1 b t
  | .prim=>∃t,Rt T 6 s s1 b t
  | .loop n a=>n<4→∀o (ta:Tr false),ta.Fit→ta.Num→s.out=o++ta.flat o.length→a=o.length+ta.cnt - 1→s.deep+IF (n+1) ta.rank ta.need≤12→∃t,Lt T n s s1 b o ta t
  | .args x ks=>∀o (rs:Tr true),CP x=true→rs.Fit→rs.Num→s.out=o++rs.flat o.length→ks=rs.kids o.length→s.deep+rs.need≤12→1≤s.deep→∃r1 a1,At T s s1 b o x rs r1 a1
theorem XG{L L' r d:Nat}(h:L≤L'):IF L r d≤IF L' r d:=by
 unfold IF
 split<;>split<;>omega
theorem Aaf(L r d:Nat):IF L r d≤d+1:=by
 unfold IF
 split<;>omega
theorem P4(L r d:Nat):d≤IF L r d:=by
 unfold IF
 split<;>omega
theorem VL(t:Tr false){L L':Nat}(h:L≤L'):W (t.opt L)≤W (t.opt L'):=by
 rw[HY,HY]
 split<;>split<;>omega
theorem Rt.low{T:List Ap}{L L':Nat}{s s1:Ch}{b:Nat}{t:Tr false}(h:Rt T L s s1 b t)(hl:L'≤L):Rt T L' s s1 b t:=
 ⟨h.fit,h.num,h.out,h.plc,h.deep,by have:=XG (r:=t.rank) (d:=t.need) hl;have:=h.need;omega,by have:=VL t hl;have:=h.wid;omega⟩
theorem Nn{T:List Ap}{n:Nat}(hn:n<4){s s1:Ch}{a:Nat}(h:Aay T (below n) s (.ok s1 a))(hd:s.deep≤12):∃t,Rt T (n+2) s s1 a t:=by
 unfold below at h
 split at h
 ·exact h hd AdE
 ·have e:n=3:=AdE
  subst e;exact h hd
theorem Rt.leaf{T:List Ap}{s s1:Ch}{n:Ah}(k:Int)(hkk:n.kind=k)(h0:1≤k)(h1:k≤6)(hk:n.kids=[])(hp:AB n=true)(hn:∀k∈C1 n,k.num≤9223372036854775807)(hd:s.deep≤12)(ho:s1.out=s.out++[n])(hdd:s1.deep=s.deep)(hw:W (C1 n)+pw T s.at_≤pw T s1.at_):∃t,Rt T 6 s s1 s.out.length t:=by
 refine⟨.leaf n,⟨by omega,by omega,hk,hp⟩,hn,ho,by simp[Tr.cnt],hdd,hd,?_⟩;rw[HY]
 simpa[Tr.rank,Tr.toks] using hw
theorem Uy{a:Tr false}(h:a.Num):(Tr.neg a).Num:=λk hk=>by
 simp only[Tr.toks,AaT] at hk;rcases hk with rfl | hk
 ·decide
 ·rcases Fg hk with hk | rfl | rfl
  ·exact h k hk
  ·decide
  ·decide
theorem Uz{o:Int}{a b:Tr false}(h:a.Num)(h':b.Num):(Tr.two o a b).Num:=λk hk=>by
 simp only[Tr.toks,Abf,AaT] at hk;rcases hk with hk | rfl | hk
 ·rcases Fg hk with hk | rfl | rfl
  ·exact h k hk
  ·decide
  ·decide
 ·show(0:Int)≤_;decide
 ·rcases Fg hk with hk | rfl | rfl
  ·exact h' k hk
  ·decide
  ·decide
theorem Rm{rs:Tr true}{a:Tr false}(h:rs.Num)(h':a.Num):(Tr.snoc rs a).Num:=λk hk=>by
 simp only[Tr.toks,Abf,AaT,Abu,or_false] at hk;rcases hk with hk | hk | rfl
 ·exact h k hk
 ·exact h' k hk
 ·decide
theorem Rl{x:List UInt8}{rs:Tr true}{a:Tr false}(h:rs.Num)(h':a.Num):(Tr.call x (.snoc rs a)).Num:=λk hk=>by
 simp only[Tr.toks,AaT,Abf,Abu,or_false] at hk;rcases hk with rfl | rfl | hk | hk | rfl
 ·show(0:Int)≤_;decide
 ·decide
 ·exact h k hk
 ·exact h' k hk
 ·decide
theorem PE.trees{T:List Ap}(hT:Aat T){m:FQ}{s:Ch}{r:HG}(h:PE T m s r):Aay T m s r:=by
 induction h with
 | lev_err _ _=>trivial
 | @lev_ok n s s1 a r _ _ ih1 ih2=>
  cases r with
  | err e=>trivial
  | ok s2 b=>
   intro hd hn;obtain⟨t,h1⟩:=Nn hn ih1 hd;have h1:=h1.low (show n+1≤n+2 by omega);obtain⟨u,h2⟩:=ih2 (by rw[h1.deep];exact hd) hn s.out t h1.fit h1.num h1.out h1.plc (by rw[h1.deep];exact h1.need)
   exact⟨u,h2.fit,h2.num,h2.out,h2.plc,h2.deep.trans h1.deep,by rw[←h1.deep];exact h2.need,by have:=h1.wid;have:=h2.wid;omega⟩
 | @loop_end n s a _=>exact λhd hn o ta h1 h2 h3 h4 h5=>⟨ta,h1,h2,h3,h4,rfl,h5,Abi _⟩
 | loop_err _ _ _=>trivial
 | @loop_go n s a i s1 b r hi _ _ ih1 ih2=>
  cases r with
  | err e=>trivial
  | ok s2 c=>
   intro hd hn o ta h1 h2 h3 h4 h5;obtain⟨k0,k1,k2,k3⟩:=Zd hn hi;obtain⟨tb,hb⟩:=Nn hn ih1 hd;have ag:s1.out=s.out++tb.flat s.out.length:=hb.out;have a9:s1.deep=s.deep:=hb.deep;have al:s.deep+IF (n+2) tb.rank tb.need≤12:=hb.need;have ai:b=s.out.length+tb.cnt - 1:=hb.plc;have am:W (tb.opt (n+2))+pw T (s.at_+1)≤pw T s1.at_:=hb.wid;have a5:s.out.length=o.length+ta.cnt:=by rw[h3,Aaq,Tr.flat_len]
   have a6:(Tr.two ((AL n).getD i 0) ta tb).need=max (IF (n+1) ta.rank ta.need) (IF (n+2) tb.rank tb.need):=by simp only[Tr.need,k2]
   have a2:(Tr.two ((AL n).getD i 0) ta tb).rank=n+1:=k2;have aa:IF (n+1) (Tr.two ((AL n).getD i 0) ta tb).rank (Tr.two ((AL n).getD i 0) ta tb).need=max (IF (n+1) ta.rank ta.need) (IF (n+2) tb.rank tb.need):=by
    unfold IF;rw[a2,if_neg AdE,a6];rfl
   have hW:W ((Tr.two ((AL n).getD i 0) ta tb).opt (n+1))=W (ta.opt (n+1))+(FL ((AL n).getD i 0)).length+W (tb.opt (n+2)):=by
    have e2:tb.opt (n+2)=brk (decide (tb.rank<n+1+1)) tb.toks:=rfl;have e1:ta.opt (n+1)=brk (decide (ta.rank<n+1)) ta.toks:=rfl;rw[HY,a2,if_neg AdE,e1,e2];simp only[Tr.toks,JH,De,Mn,k2];omega
   have a0:=CK T s;obtain⟨t,h⟩:=ih2 (by show s1.deep≤12;omega) hn o (.two ((AL n).getD i 0) ta tb) ⟨k0,k1,h1,hb.fit⟩ (Uz h2 hb.num) (by
    show s1.out++[_]=_;rw[ag,ai,h3,h4];simp only[Tr.flat,AaR,Aaq,Tr.flat_len]) (by
    show s1.out.length=_;rw[ag,Aaq,Tr.flat_len,a5];simp only[Tr.cnt];omega) (by
    show s1.deep+_≤12;rw[aa,a9];omega)
   have e1:(BS s1 {kind:=(AL n).getD i 0,kids:=[(a:Int),(b:Int)]}).deep=s1.deep:=rfl;have e2:(BS s1 {kind:=(AL n).getD i 0,kids:=[(a:Int),(b:Int)]}).at_=s1.at_:=rfl;refine⟨t,h.fit,h.num,h.out,h.plc,by rw[h.deep,e1,a9],by have:=h.need;rw[e1,a9] at this;exact this,?_⟩;have:=h.wid;rw[e2,hW] at this
   omega
 | @un_prim s r _ _ ih=>
  cases r with
  | err e=>trivial
  | ok s2 b=>
   intro hd;obtain⟨t,h⟩:=ih hd
   exact⟨t,h.low AdE⟩
 | un_deep _ _=>trivial
 | un_err _ _ _ _=>trivial
 | @un_ok s s1 a hi hd _ ih=>
  intro _;obtain⟨t,h⟩:=ih AdY;have ho:s1.out=s.out++t.flat s.out.length:=h.out;have a7:s1.deep=s.deep+1:=h.deep;have a8:s.deep+1+IF 5 t.rank t.need≤12:=h.need;have hp:a=s.out.length+t.cnt - 1:=h.plc;have hw:W (t.opt 5)+pw T (s.at_+1)≤pw T s1.at_:=h.wid;have a0:=CK T s;have hc:=Fh hi;simp only[AaL,Abl] at hc;refine⟨.neg t,h.fit,Uy h.num,?_,?_,?_,?_,?_⟩
  ·show s1.out++[_]=_;rw[ho,hp];simp only[Tr.flat,AaR]
  ·rw[ho,Aaq,Tr.flat_len];simp only[Tr.cnt];omega
  ·show s1.deep - 1=s.deep;omega
  ·have:IF 5 (Tr.neg t).rank (Tr.neg t).need=IF 5 t.rank t.need+1:=rfl;rw[this];omega
  ·have:W ((Tr.neg t).opt 5)=1+W (t.opt 5):=by
    rw[HY (.neg t)];simp only[Tr.rank,Tr.toks,De,Mn,Tr.opt,AaL,Abl];rfl
   rw[this];show _≤pw T s1.at_
   omega
 | pr_sign _ _=>trivial
 | pr_deep _ _=>trivial
 | pr_err _ _ _ _=>trivial
 | pr_open _ _ _ _ _=>trivial
 | @pr_ok s s1 a hi hd _ a4 ih=>
  intro _;obtain⟨t,h⟩:=ih AdY AdE;have a7:s1.deep=s.deep+1:=h.deep;have a8:s.deep+1+IF 1 t.rank t.need≤12:=h.need;have hw:W (t.opt 1)+pw T (s.at_+1)≤pw T s1.at_:=h.wid;have a0:=CK T s;have a3:=CK T s1;have hc:=Fh hi;have ab:=Fh a4;simp only[AaL,Abl] at hc ab;refine⟨t,h.fit,h.num,h.out,h.plc,?_,?_,?_⟩
  ·show s1.deep - 1=s.deep;omega
  ·have:=Aaf 6 t.rank t.need;have:=P4 1 t.rank t.need;omega
  ·show _≤pw T (s1.at_+1);rw[HY] at hw ⊢
   split<;>omega
 | pr_end _=>trivial
 | @pr_num s h=>
  intro hd;obtain⟨e,h0,h1⟩:=Abc (Ga hT (s:=s) AdE) h;have a0:=CK T s;have ek:C1 {kind:=1,num:=(Ad T s).num}=[nA (Ad T s)]:=by rw[e];rfl
  refine Rt.leaf 1 rfl AdH AdH rfl (C8 (by show decide (0≤(Ad T s).num)=true;exact decide_eq_true h0) ⟨rfl,rfl,rfl,rfl⟩) (by rw[ek];intro k hk;rw[Aad.1 hk];exact h1) hd rfl rfl ?_;rw[ek,De,JI,IQ];show _≤pw T (s.at_+1)
  omega
 | @pr_text s h=>
  intro hd;obtain⟨e,h0⟩:=Abd (Ga hT (s:=s) AdE) h;have a0:=CK T s;have ek:C1 {kind:=2,text:=(Ad T s).text}=[nA (Ad T s)]:=by rw[e];rfl
  refine Rt.leaf 2 rfl AdH AdH rfl (C8 (by show NR (Ad T s).text=true;exact h0) ⟨rfl,rfl,rfl,rfl⟩) AdZ hd rfl rfl ?_;rw[ek,De,JI,IQ];show _≤pw T (s.at_+1)
  omega
 | @pr_dead s h=>
  intro hd;have e:=Abe (Ga hT (s:=s) AdE) h;have a0:=CK T s;have ek:C1 {kind:=4}=[nA (Ad T s)]:=by rw[e];rfl
  refine Rt.leaf 4 rfl AdH AdH rfl rfl AdZ hd rfl rfl ?_;rw[ek,De,JI,IQ];show _≤pw T (s.at_+1)
  omega
 | @pr_ref s h _=>
  intro hd;obtain⟨e,h0⟩:=Aan (Ga hT (s:=s) AdE) h;have a0:=CK T s;have ek:C1 {kind:=5,ref:=(Ad T s).ref}=[nA (Ad T s)]:=by rw[e];rfl
  refine Rt.leaf 5 rfl AdH AdH rfl (C8 (by show Bz (Ad T s).ref=true;exact h0) ⟨rfl,rfl,rfl,rfl⟩) AdZ hd rfl rfl ?_;rw[ek,De,JI,IQ];show _≤pw T (s.at_+1)
  omega
 | @pr_range s h hi h' hr=>
  intro hd;obtain⟨e,h0⟩:=Aan (Ga hT (s:=s) AdE) h;obtain⟨e',ac⟩:=Aan (Ga hT (s:=Ax (Ax s)) AdE) h';have a0:=CK T s;have a3:pw T (s.at_+1+1)=pw T (s.at_+1)+(BJ (Ad T (Ax s))).length:=CK T (Ax s);have ad:pw T (s.at_+1+1+1)=pw T (s.at_+1+1)+(BJ (Ad T (Ax (Ax s)))).length:=CK T (Ax (Ax s));have hc:=Fh hi;simp only[AaL,Abl] at hc;have ek:C1 {kind:=6,ref:=(Ad T s).ref,to:=(Ad T (Ax (Ax s))).ref}=[nA (Ad T s),sg [58],nA (Ad T (Ax (Ax s)))]:=by rw[e,e'];rfl
  refine Rt.leaf 6 rfl AdH AdH rfl (C8 (by show(Bz (Ad T s).ref&&(Bz (Ad T (Ax (Ax s))).ref&&BL (Ad T s).ref (Ad T (Ax (Ax s))).ref))=true;have h0:Bz (Ad T s).ref=true:=h0;have ac:Bz (Ad T (Ax (Ax s))).ref=true:=ac;rw[h0,ac,hr];rfl) ⟨rfl,rfl,rfl,rfl⟩) (by
   rw[ek];intro k hk;simp only[AaT,Abu,or_false] at hk;rcases hk with rfl | rfl | rfl
   ·rw[e];show(0:Int)≤9223372036854775807;decide
   ·decide
   ·rw[e'];show(0:Int)≤9223372036854775807;decide) hd rfl rfl ?_
  rw[ek,De,De,De,JI,IQ,IQ,Mn];show _≤pw T (s.at_+1+1+1);simp only[AaL,Abl]
  omega
 | pr_norange _ _ _=>trivial
 | @pr_true s h h1=>
  intro hd;have a0:=CK T s;have hl:(BJ (Ad T s)).length=4:=by simp[BJ,h,h1,DR]
  refine Rt.leaf 3 rfl AdH AdH rfl rfl AdH hd rfl rfl ?_;have:W (C1 {kind:=3,num:=1})=4:=rfl;rw[this];show _≤pw T (s.at_+1)
  omega
 | @pr_false s h h1=>
  intro hd;have a0:=CK T s;have hl:(BJ (Ad T s)).length=5:=by simp[BJ,h,h1,Dm]
  refine Rt.leaf 3 rfl AdH AdH rfl rfl AdH hd rfl rfl ?_;have:W (C1 {kind:=3})=5:=rfl;rw[this];show _≤pw T (s.at_+1)
  omega
 | pr_nocall _ _ _ _=>trivial
 | pr_calldeep _ _ _ _ _=>trivial
 | @pr_call0 s h h1 h2 ae hd a4=>
  intro _;obtain⟨e,f0,f1⟩:=AaK (Ga hT (s:=s) AdE) h;have hn:CP (Ad T s).text=true:=by
   have f0:NH (Ad T s).text=true:=f0;have f1:Br (Ad T s).text=false:=f1;simp[CP,f0,f1,h1,h2]
  have a0:=CK T s;have a3:pw T (s.at_+1+1)=pw T (s.at_+1)+(BJ (Ad T (Ax s))).length:=CK T (Ax s);have ad:pw T (s.at_+1+1+1)=pw T (s.at_+1+1)+(BJ (Ad T (Az (Ax (Ax s))))).length:=CK T (Az (Ax (Ax s)));have hc:=Fh ae;have ab:=Fh a4;have hx:(BJ (Ad T s)).length=(Ad T s).text.length:=by simp[BJ,h]
  simp only[AaL,Abl] at hc ab;refine⟨.call (Ad T s).text .nil,⟨hn,trivial⟩,?_,rfl,by simp[Tr.cnt],rfl,?_,?_⟩
  ·intro k hk;simp only[Tr.toks,AaT,Abu,or_false] at hk;rcases hk with rfl | rfl | rfl
   ·show(0:Int)≤_;decide
   ·decide
   ·decide
  ·show s.deep+1≤12;omega
  ·rw[HY];simp only[Tr.rank,Tr.toks,De,JI,Mn,AaL,Abl];show(Ad T s).text.length+_+_+_≤pw T (s.at_+1+1+1);simp
   omega
 | @pr_call s r h h1 h2 ae hd a4 _ ih=>
  cases r with
  | err e=>trivial
  | ok s2 b=>
   intro _;obtain⟨e,f0,f1⟩:=AaK (Ga hT (s:=s) AdE) h;have hn:CP (Ad T s).text=true:=by
    have f0:NH (Ad T s).text=true:=f0;have f1:Br (Ad T s).text=false:=f1;simp[CP,f0,f1,h1,h2]
   obtain⟨r1,a1,hh⟩:=ih AdY s.out .nil hn trivial (λk hk=>by cases hk) (by simp[Tr.flat,Az,Ax]) rfl (by show s.deep+1+0≤12;omega) (by show 1≤s.deep+1;omega);have a0:=CK T s;have a3:pw T (s.at_+1+1)=pw T (s.at_+1)+(BJ (Ad T (Ax s))).length:=CK T (Ax s);have hc:=Fh ae;have hx:(BJ (Ad T s)).length=(Ad T s).text.length:=by simp[BJ,h]
   simp only[AaL,Abl] at hc;have a8:s.deep+1+(Tr.snoc r1 a1).need≤12:=hh.need;have hw:W r1.toks+W a1.toks+1+pw T (s.at_+1+1)≤0+pw T s2.at_:=hh.wid;have a7:s2.deep=s.deep+1 - 1:=hh.deep;refine⟨.call (Ad T s).text (.snoc r1 a1),hh.fit,Rl hh.num.1 hh.num.2,hh.out,hh.plc,by omega,?_,?_⟩
   ·show s.deep+((Tr.snoc r1 a1).need+1)≤12;omega
   ·rw[HY];simp only[Tr.rank,Tr.toks,De,JH,JI,Mn,AaL,Abl];show(Ad T s).text.length+_+_+_≤_;simp
    omega
 | ar_err _ _=>trivial
 | @ar_go x ks s s1 a r _ ah _ ih1 ih2=>
  cases r with
  | err e=>trivial
  | ok s2 b=>
   intro hd o rs hx h1 h2 h3 h4 h5 h6;obtain⟨t,h⟩:∃t,Rt T 1 s s1 a t:=ih1 hd AdE;have aj:=P4 1 t.rank t.need;have a8:=h.need;have a7:=h.deep;have a5:s.out.length=o.length+rs.cnt:=by rw[h3,Aaq,Tr.flat_len]
   obtain⟨r1,a1,hh⟩:=ih2 (by show s1.deep≤12;omega) o (.snoc rs t) hx ⟨h1,h.fit⟩ (Rm h2 h.num) (by
    show s1.out=_;rw[h.out,h3];simp only[Tr.flat,AaR,Aaq,Tr.flat_len]) (by
    rw[h4,h.plc,a5];simp only[Tr.kids]) (by
    show s1.deep+max rs.need t.need≤12;omega) (by show 1≤s1.deep;omega)
   have af:W (t.opt 1)+pw T s.at_≤pw T s1.at_:=h.wid;have ak:W r1.toks+W a1.toks+1+pw T (s1.at_+1)≤W (Tr.snoc rs t).toks+pw T s2.at_:=hh.wid;have a0:=CK T s1;have hc:=Fh ah;simp only[AaL,Abl] at hc;have an:s2.deep=s1.deep - 1:=hh.deep;have ao:s1.deep+(Tr.snoc r1 a1).need≤12:=hh.need;refine⟨r1,a1,hh.fit,hh.num,hh.out,hh.plc,by omega,by omega,?_⟩;rw[HY] at af;simp only[Tr.toks,JH,De,JI,Mn,AaL,Abl] at ak
   omega
 | ar_open _ _ _ _=>trivial
 | @ar_end x ks s s1 a _ ah a4 ih=>
  intro hd o rs hx h1 h2 h3 h4 h5 h6;obtain⟨t,h⟩:∃t,Rt T 1 s s1 a t:=ih hd AdE;have aj:=P4 1 t.rank t.need;have a8:=h.need;have a7:=h.deep;have a5:s.out.length=o.length+rs.cnt:=by rw[h3,Aaq,Tr.flat_len]
  have af:W (t.opt 1)+pw T s.at_≤pw T s1.at_:=h.wid;have a0:=CK T s1;have hc:=Fh a4;simp only[AaL,Abl] at hc;refine⟨rs,t,⟨hx,h1,h.fit⟩,⟨h2,h.num⟩,?_,?_,by show s1.deep - 1=s.deep - 1;omega,?_,?_⟩
  ·show s1.out++[_]=_;rw[h.out,h3,h4,h.plc,a5];simp only[Tr.flat,Tr.kids,AaR,Aaq,Tr.flat_len]
  ·rw[h.out,h3];simp only[Aaq,Tr.flat_len,Tr.cnt];omega
  ·show s.deep+max rs.need t.need≤12;omega
  ·show _≤_+pw T (s1.at_+1);rw[HY] at af;omega
theorem Wb{s:List UInt8}{T:List Ap}{l:List Ah}(h:Jq s=some T)(hp:DF T (.ok l)):∃t:Tr false,t.Fit∧t.Num∧t.flat 0=l∧t.need≤12∧t.text.length≤s.length:=by
 obtain⟨hC,hw⟩:=QQ _ s 0 (Abi _) h;obtain⟨s1,a,a0,_,ho⟩:=hp;obtain⟨t,ht⟩:=(a0.trees hC) AdM AdE;have h1:=ht.out;have h2:=ht.need;have h3:=ht.wid;have h4:=P4 1 t.rank t.need;have h5:=AaE T s1.at_;rw[HY] at h3;have h6:W T≤s.length:=hw;refine⟨t,ht.fit,ht.num,by rw[←ho,h1];rfl,by simp only[AbC] at h2;omega,?_⟩;show W t.toks≤_;omega
noncomputable def AU(s:List UInt8):Except Int (List Ah):=open Classical in
 if 300<s.length then .error 4 else match Jq s with
 | none=>.error 5
 | some T=>if h:∃o,DF T o then h.choose else .error 0
theorem KQ{s:List UInt8}{T:List Ap}{o:Except Int (List Ah)}(h300:s.length≤300)(hl:Jq s=some T)(hp:DF T o):AU s=o:=by
 unfold AU;rw[if_neg AdE,hl];have hx:∃o,DF T o:=⟨o,hp⟩;simp only;rw[dif_pos hx];exact hx.choose_spec.det hp
theorem DU.res{s:List UInt8}{v:Value}{w:World}{lo:Nat}(h:DU s v w lo):Aaz w lo v (AU s):=by
 unfold DU at h;by_cases h1:300<s.length
 ·rw[if_pos h1] at h;have:AU s=.error 4:=by unfold AU;rw[if_pos h1]
  rw[this];exact h
 ·rw[if_neg h1] at h
  cases e:Jq s with
  | none=>
   rw[e] at h;have:AU s=.error 5:=by unfold AU;rw[if_neg h1,e]
   rw[this];exact h
  | some T=>
   rw[e] at h;obtain⟨o,hp,hr⟩:=h;rw[KQ AdE e hp];exact hr
theorem OC{s:List UInt8}{l:List Ah}(h:AU s=.ok l):s.length≤300∧∃t:Tr false,t.Fit∧t.Num∧t.flat 0=l∧t.need≤12∧t.text.length≤s.length:=by
 unfold AU at h
 split at h
 ·cases h
 ·rename_i h1
  split at h
  ·cases h
  ·rename_i T e
   split at h
   ·rename_i hx;have:=hx.choose_spec;rw[h] at this;exact⟨by omega,Wb e this⟩
   ·cases h
theorem FW(t:Tr false)(hf:t.Fit)(hn:t.Num):AU t.text=if 300<t.text.length then .error 4 else if t.need≤12 then .ok (t.flat 0) else .error 6:=by
 obtain⟨T,h1,h2⟩:=t.lex hf hn;by_cases h3:300<t.text.length
 ·rw[if_pos h3];unfold AU;rw[if_pos h3]
 ·rw[if_neg h3];exact KQ AdE h1 (t.again hf h2)
def DP(o:Nat):Tr false→Ah
 | .leaf n=>n
 | .neg a=>{kind:=8,kids:=[((o+a.cnt - 1:Nat):Int)]}
 | .two k a b=>{kind:=k,kids:=[((o+a.cnt - 1:Nat):Int),((o+a.cnt+b.cnt - 1:Nat):Int)]}
 | .call x ks=>{kind:=7,text:=x,kids:=ks.kids o}
def Qy(o:Nat):Tr false→List Ah
 | .leaf _=>[]
 | .neg a=>a.flat o
 | .two _ a b=>a.flat o++b.flat (o+a.cnt)
 | .call _ ks=>ks.flat o
theorem Dv(o:Nat)(t:Tr false):t.flat o=Qy o t++[DP o t]:=by
 cases t with
 | leaf n=>rfl
 | neg a=>rfl
 | two k a b=>rfl
 | call x ks=>rfl
theorem WN(o:Nat)(t:Tr false):(Qy o t).length+1=t.cnt:=by
 have:=congrArg List.length (Dv o t)
 simpa[Tr.flat_len] using this.symm
theorem Km{α:Type}{a b:List α}{x y:α}(h:a++[x]=b++[y]):a=b∧x=y:=by
 have:=List.append_inj' h rfl;exact⟨this.1,by simpa using this.2⟩
theorem MF:∀(ks:Tr true) (o o':Nat),(ks.kids o).length=(ks.kids o').length
 | .nil,_,_=>rfl
 | .snoc rs a,o,o'=>by simp[Tr.kids,MF rs o o']
theorem Tr.inj:∀{b:Bool} (t u:Tr b),t.Fit→u.Fit→∀l m:List Ah,l++t.flat l.length=m++u.flat m.length→(b=false∨(t.kids 0).length=(u.kids 0).length)→t=u∧l=m
 | _,.leaf n,u,hf,hu,l,m,h,_=>by
  rw[Dv _ u,←List.append_assoc] at h;obtain⟨h1,h2⟩:=Km (a:=l) h
  cases u with
  | leaf n'=>exact⟨by rw[show n=n' from h2],by simpa[Qy] using h1⟩
  | neg a=>have:=hf.2.1;rw[h2] at this;simp[DP] at this
  | two k a b=>have:=hf.2.1;have:=hu.1;rw[h2] at *;simp[DP] at *;omega
  | call x ks=>have:=hf.2.1;rw[h2] at this;simp[DP] at this
 | _,.neg a,u,hf,hu,l,m,h,_=>by
  rw[Dv _ u,Dv _ (.neg a),←List.append_assoc,←List.append_assoc] at h;obtain⟨h1,h2⟩:=Km h
  cases u with
  | leaf n'=>have:=hu.2.1;rw[←show DP l.length (.neg a)=n' from h2] at this;simp[DP] at this
  | neg a'=>
   obtain⟨e1,e2⟩:=inj a a' hf hu l m h1 (.inl rfl)
   exact⟨by rw[e1],e2⟩
  | two k a b=>have:=hu.1;have h3:=congrArg Ah.kind h2;simp[DP] at h3;omega
  | call x ks=>have h3:=congrArg Ah.kind h2;simp[DP] at h3
 | _,.two k a b,u,hf,hu,l,m,h,_=>by
  rw[Dv _ u,Dv _ (.two k a b),←List.append_assoc,←List.append_assoc] at h;obtain⟨h1,h2⟩:=Km h;have h3:=congrArg Ah.kind h2;have hk:=hf.1
  cases u with
  | leaf n'=>have:=hu.2.1;simp[DP] at h3;omega
  | neg a'=>simp[DP] at h3;omega
  | two k' a' b'=>
   simp only[Qy] at h1;rw[←List.append_assoc,←List.append_assoc] at h1;have e:l.length+a.cnt=(l++a.flat l.length).length:=by simp[Tr.flat_len]
   have e':m.length+a'.cnt=(m++a'.flat m.length).length:=by simp[Tr.flat_len]
   rw[e,e'] at h1;obtain⟨q1,q2⟩:=inj b b' hf.2.2.2 hu.2.2.2 _ _ h1 (.inl rfl);obtain⟨q3,q4⟩:=inj a a' hf.2.2.1 hu.2.2.1 l m q2 (.inl rfl);refine⟨?_,q4⟩
   rw[q1,q3,show k=k' from h3]
  | call x ks=>simp[DP] at h3;omega
 | _,.call x ks,u,hf,hu,l,m,h,_=>by
  rw[Dv _ u,Dv _ (.call x ks),←List.append_assoc,←List.append_assoc] at h;obtain⟨h1,h2⟩:=Km h;have h3:=congrArg Ah.kind h2
  cases u with
  | leaf n'=>have:=hu.2.1;simp[DP] at h3;omega
  | neg a'=>simp[DP] at h3
  | two k a b=>have:=hu.1;simp[DP] at h3;omega
  | call x' ks'=>
   have h4:=congrArg (λn=>n.kids.length) h2;simp only[DP] at h4;obtain⟨q1,q2⟩:=inj ks ks' hf.2 hu.2 l m h1 (.inr (by rw[MF ks 0 l.length,MF ks' 0 m.length];exact h4));have h5:=congrArg Ah.text h2;refine⟨?_,q2⟩
   rw[q1,show x=x' from h5]
 | _,.nil,u,_,_,l,m,h,hk=>by
  rcases u.snoc_form with rfl | ⟨rs,a,rfl⟩
  ·exact⟨rfl,by simpa[Tr.flat] using h⟩
  ·simp[Tr.kids] at hk
 | _,.snoc rs a,u,hf,hu,l,m,h,hk=>by
  rcases u.snoc_form with rfl | ⟨rs',a',rfl⟩
  ·simp[Tr.kids] at hk
  ·simp only[Tr.flat] at h;rw[←List.append_assoc,←List.append_assoc] at h;have e:l.length+rs.cnt=(l++rs.flat l.length).length:=by simp[Tr.flat_len]
   have e':m.length+rs'.cnt=(m++rs'.flat m.length).length:=by simp[Tr.flat_len]
   rw[e,e'] at h;obtain⟨q1,q2⟩:=inj a a' hf.2 hu.2 _ _ h (.inl rfl);obtain⟨q3,q4⟩:=inj rs rs' hf.1 hu.1 l m q2 (.inr (by simpa[Tr.kids] using hk));exact⟨by rw[q1,q3],q4⟩
theorem Tr.goes:∀{b:Bool} (t:Tr b),t.Fit→∀(o:Nat) (st:List Int),Bu o st (t.flat o)=some (st++(if b then t.kids o else[((o+t.cnt - 1:Nat):Int)]))
 | _,.leaf n,hf,o,st=>by
  have hc:Jo n=n.kids.length:=by
   have h1:=hf.1;have h2:=hf.2.1;have a0:Dl n.kind=0:=by
    unfold Dl;rw[if_neg AdE,if_neg AdE,if_neg AdE,if_neg AdE]
   rw[hf.2.2.1,Jo,a0];rfl
  have:=Il (l:=[]) (i:=o) (st:=st) (st':=st) (ks:=[]) (by simp[Bu]) hf.2.2.1 hc hf.2.2.2
  simpa[Tr.cnt,Tr.flat] using this
 | _,.neg a,hf,o,st=>by
  have h:=goes a hf o st;have:=Il (ks:=[((o+a.cnt - 1:Nat):Int)]) (n:={kind:=8,kids:=[((o+a.cnt - 1:Nat):Int)]}) h rfl rfl rfl;rw[Tr.flat_len] at this
  simpa[Tr.cnt,Tr.flat] using this
 | _,.two k a b,hf,o,st=>by
  have h1:=goes a hf.2.2.1 o st;have h2:=goes b hf.2.2.2 (o+a.cnt) (st++[((o+a.cnt - 1:Nat):Int)]);have hn:=NC hf.1 hf.2.1 ((o+a.cnt - 1:Nat):Int) ((o+a.cnt+b.cnt - 1:Nat):Int);have h3:Bu o st (a.flat o++b.flat (o+a.cnt))=some (st++[((o+a.cnt - 1:Nat):Int),((o+a.cnt+b.cnt - 1:Nat):Int)]):=by
   rw[DL,h1];simp only[Ab9,if_false,Ack,Tr.flat_len];simp only[Ab9,if_false] at h2;rw[h2];simp
  have:=Il (n:={kind:=k,kids:=[((o+a.cnt - 1:Nat):Int),((o+a.cnt+b.cnt - 1:Nat):Int)]}) h3 rfl hn.1 hn.2;simp only[Aaq,Tr.flat_len] at this;simp only[Tr.flat,this,Tr.cnt]
  simp
 | _,.call x ks,hf,o,st=>by
  have h:=goes ks hf.2 o st;simp only[if_true] at h;have hn:=It hf.1 (ks.kids o);have:=Il (n:={kind:=7,text:=x,kids:=ks.kids o}) h rfl hn.1 hn.2;rw[Tr.flat_len] at this
  simpa[Tr.cnt,Tr.flat] using this
 | _,.nil,_,o,st=>by simp[Bu,Tr.flat,Tr.kids]
 | _,.snoc rs a,hf,o,st=>by
  have h1:=goes rs hf.1 o st;have h2:=goes a hf.2 (o+rs.cnt) (st++rs.kids o);simp only[if_true] at h1;simp only[Ab9,if_false] at h2;simp only[Tr.flat,Tr.kids,DL,h1,Ack,Tr.flat_len,h2,if_true];simp
theorem Tr.tree(t:Tr false)(hf:t.Fit):Cr (t.flat 0)=true:=by
 have:=t.goes hf 0 [];simp only[Ab5,Ab9,if_false] at this;rw[Cr,this];rfl
noncomputable def BO(l:List Ah):List UInt8:=open Classical in if h:∃t:Tr false,t.Fit∧t.flat 0=l then h.choose.text else[]
theorem G9{t:Tr false}(hf:t.Fit):BO (t.flat 0)=t.text:=by
 unfold BO;have hx:∃u:Tr false,u.Fit∧u.flat 0=t.flat 0:=⟨t,hf,rfl⟩;rw[dif_pos hx];obtain⟨h1,h2⟩:=hx.choose_spec;rw[(Tr.inj _ t h1 hf [] [] Aeh (.inl rfl)).1]
theorem OE{l:List Ah}(h:Cr l=false):BO l=[]:=by
 unfold BO;rw[dif_neg];rintro⟨t,hf,rfl⟩;rw[t.tree hf] at h;cases h
theorem Ia{s:List UInt8}{l:List Ah}(h:AU s=.ok l):AU (BO l)=.ok l∧(BO l).length≤s.length∧Cr l=true∧∃t:Tr false,t.Fit∧t.Num∧t.flat 0=l∧BO l=t.text:=by
 obtain⟨h3,t,hf,hn,rfl,hd,hl⟩:=OC h;rw[G9 hf,FW t hf hn,if_neg AdE,if_pos hd];exact⟨rfl,hl,t.tree hf,t,hf,hn,rfl,rfl⟩
theorem KR(s:List UInt8):(Eg s).length≤2*s.length+2:=by
 have:∀s:List UInt8,(s.flatMap (λc=>if c=(34:UInt8) then[34,34] else[c])).length≤2*s.length:=by
  intro s
  induction s with
  | nil=>simp
  | cons c s ih=>
   simp only[Ab6,Aaq,AaL];by_cases h:c=34
   ·rw[if_pos h];simp only[AaL,Abl];omega
   ·rw[if_neg h];simp only[AaL,Abl];omega
 have:=this s;simp only[Eg,AaL,Aaq,Abl];omega
theorem OU{r:Da}(h:Bz r=true):(BR r).length≤r.sheet.length+10:=by
 obtain⟨_,_,_,r0,r1⟩:=Ez h;have h1:=(I4 (z:=r.row+1) AdE AdE).2.2.1;have h2:=Ly r.col;have h3:=Fi r.ac;have h4:=Fi r.ar;unfold BR
 split<;>simp only[Aaq,AaL,Abl]<;>omega
theorem NZ.get{w:World}{lo:Nat}{sv:Value}{l:List Ah}(h:NZ w lo sv l)(hn:0<l.length) :
  ∃(g cap:Nat) (nvs:List NV) (sp:List Value),sv=.slice (some ⟨g,0,none⟩) l.length cap∧Blk w g (nvs.flatMap Df++sp) 189∧nvs.map NV.node=l∧∀x∈nvs,C7 w x.kv x.node.kids:=by
 obtain⟨nvs,ho,hm,hk⟩:=h;have hl:nvs.length=l.length:=by rw[←hm];simp
 obtain⟨g,cap,sp,rfl,hB,_⟩:=ho.get AdE;exact⟨g,cap,nvs,sp,by rw[hl],hB,hm,hk⟩
theorem VH{nvs:List NV}{l:List Ah}(hm:nvs.map NV.node=l){i:Nat}{nd:Ah}(h:l[i]?=some nd):∃kv,nvs[i]?=some ⟨nd,kv⟩:=by
 rw[←hm,Ab1] at h
 cases e:nvs[i]? with
 | none=>rw[e] at h;cases h
 | some x=>
  rw[e] at h;simp only[Ab3,Aar] at h;exact⟨x.kv,by rw[←h]⟩
theorem PR{i:Nat}{st st':List Int}{n:Ah}(h:DD i st n=some st'):n.kids.length≤st.length∧st'.length≤st.length+1:=by
 unfold DD at h
 split at h
 ·rename_i hc;simp only[Aar] at h;subst h;exact⟨hc.2.1,by simp⟩
 ·cases h
theorem LJ:∀(l:List Ah) (i:Nat) (st st':List Int),Bu i st l=some st'→∀n∈l,n.kids.length≤st.length+l.length
 | [],_,_,_,_,_,hn=>absurd hn AdM
 | m::t,i,st,st',h,n,hn=>by
  rw[Bu] at h
  cases e:DD i st m with
  | none=>rw[e] at h;cases h
  | some s1=>
   rw[e] at h;obtain⟨h1,h2⟩:=PR e;rcases AaT.1 hn with rfl | hn
   ·simp;omega
   ·have:=LJ t (i+1) s1 st' h n hn;simp;omega
theorem NB{l:List Ah}(h:Cr l=true):∀n∈l,n.kids.length≤l.length:=by
 unfold Cr at h
 split at h
 ·rename_i st e;intro n hn;have:=LJ l 0 [] st e n hn
  simpa using this
 ·cases h
theorem NZ.row{w:World}{lo:Nat}{sv:Value}{l:List Ah}(h:NZ w lo sv l)(hl:l.length≤100000)(hk:∀n∈l,n.kids.length≤100000):CS w sv l:=by
 refine⟨hl,?_⟩;by_cases h0:l.length=0
 ·have a1:l=[]:=Abt h0;subst a1;obtain⟨nvs,ho,hm,_⟩:=h;have a2:nvs=[]:=by simpa using hm
  subst a2;obtain⟨_,⟨e,_⟩ | ⟨g,cap,sp,e,hB,_⟩⟩:=ho
  ·exact .inl ⟨e,rfl⟩
  ·exact .inr ⟨_,cap,e,λi nd hi=>by simp at hi⟩
 ·obtain⟨g,cap,nvs,sp,rfl,hB,hm,a0⟩:=h.get AdE;refine .inr ⟨_,cap,rfl,λi nd hi=>?_⟩;obtain⟨kv,hg⟩:=VH hm hi;refine⟨kv,⟨by have:=hk nd (Abn hi);omega,?_⟩,λj u hu=>?_⟩
  ·rcases a0 _ (Abn hg) with ⟨e1,e2⟩ | ⟨b',cap',sp',e1,a3⟩
   ·exact .inl ⟨e1,e2⟩
   ·refine .inr ⟨_,cap',e1,λj z hz=>a3.getElem _ _ ?_⟩;rw[Abk (by
     rw[A9];rcases AbI j nd.kids.length with h | h
     ·exact h
     ·rw[Abs h] at hz;cases hz)]
    exact Jn hz
  ·have hj:j<14:=by
    rcases AbI j 14 with h | h
    ·exact h
    ·rw[Abs (by rw[XA];exact h)] at hu;cases hu
   rw[Addr.add_add];refine hB.getElem _ _ ?_;rw[M5 XA nvs sp i _ j hg hj];exact hu
theorem PE.errs{T:List Ap}{m:FQ}{s:Ch}{r:HG}(h:PE T m s r):∀e,r=.err e→e=5∨e=6:=by
 induction h with
 | lev_err _ ih=>intro e he;cases he;exact ih _ rfl
 | lev_ok _ _ _ ih=>exact ih
 | loop_end _=>intro e he;cases he
 | loop_err _ _ ih=>intro e he;cases he;exact ih _ rfl
 | loop_go _ _ _ _ ih=>exact ih
 | un_prim _ _ ih=>exact ih
 | un_deep _ _=>intro e he;cases he;exact .inr rfl
 | un_err _ _ _ ih=>intro e he;cases he;exact ih _ rfl
 | un_ok _ _ _ _=>intro e he;cases he
 | pr_sign _ _=>intro e he;cases he;exact .inl rfl
 | pr_deep _ _=>intro e he;cases he;exact .inr rfl
 | pr_err _ _ _ ih=>intro e he;cases he;exact ih _ rfl
 | pr_open _ _ _ _ _=>intro e he;cases he;exact .inl rfl
 | pr_ok _ _ _ _ _=>intro e he;cases he
 | pr_end _=>intro e he;cases he;exact .inl rfl
 | pr_num _=>intro e he;cases he
 | pr_text _=>intro e he;cases he
 | pr_dead _=>intro e he;cases he
 | pr_ref _ _=>intro e he;cases he
 | pr_range _ _ _ _=>intro e he;cases he
 | pr_norange _ _ _=>intro e he;cases he;exact .inl rfl
 | pr_true _ _=>intro e he;cases he
 | pr_false _ _=>intro e he;cases he
 | pr_nocall _ _ _ _=>intro e he;cases he;exact .inl rfl
 | pr_calldeep _ _ _ _ _=>intro e he;cases he;exact .inr rfl
 | pr_call0 _ _ _ _ _ _=>intro e he;cases he
 | pr_call _ _ _ _ _ _ _ ih=>exact ih
 | ar_err _ ih=>intro e he;cases he;exact ih _ rfl
 | ar_go _ _ _ _ ih=>exact ih
 | ar_open _ _ _ _=>intro e he;cases he;exact .inl rfl
 | ar_end _ _ _ _=>intro e he;cases he
theorem Tr.cnt_le:∀{b:Bool} (t:Tr b),t.Fit→t.Num→t.cnt≤W t.toks
 | _,.leaf n,hf,hn=>by
  obtain⟨u,m,e,hk,_⟩:=G0 hf.1 hf.2.1;have hc:=(KY ((Tr.leaf n).can hf hn u (by show u∈C1 n;rw[e];simp))).1;show 1≤W (C1 n);rw[e,De];have:=Ab8.2 hc
  omega
 | _,.neg a,hf,hn=>by
  have ha:=cnt_le a hf (λu hu=>hn u AdW);simp only[Tr.cnt,Tr.toks,De,WF,Mn,AaL,Abl]
  omega
 | _,.two o a b,hf,hn=>by
  have ha:=cnt_le a hf.2.2.1 (λu hu=>hn u AdT);have hb:=cnt_le b hf.2.2.2 (λu hu=>hn u AdS);have hs:=Ab8.2 (Kk _ (IM hf.1 hf.2.1)).1;simp only[Tr.cnt,Tr.toks,JH,De,WF,Mn]
  omega
 | _,.call x .nil,hf,hn=>by
  simp only[Tr.cnt,Tr.toks,De,Mn,AaL,Abl]
  omega
 | _,.call x (.snoc rs a),hf,hn=>by
  have hr:=cnt_le rs hf.2.1 (λu hu=>hn u AdN);have ha:=cnt_le a hf.2.2 (λu hu=>hn u AdN);simp only[Tr.cnt,Tr.toks,De,JH,Mn,AaL,Abl]
  omega
 | _,.nil,_,_=>Acn _
 | _,.snoc rs a,hf,hn=>by
  have hr:=cnt_le rs hf.1 (λu hu=>hn u AdN);have ha:=cnt_le a hf.2 (λu hu=>hn u AdN);simp only[Tr.cnt,Tr.toks,JH];omega
def PIs(s:List UInt8)(l:List Ah)(e:Int):Prop:=AU s=.ok l∧e=0∨AU s=.error e∧l=[]∧(e=4∨e=5∨e=6)
theorem P8{s:List UInt8}{l:List Ah}(h:AU s=.ok l):Em l:=by
 unfold AU at h
 split at h
 ·cases h
 ·rename_i h1
  split at h
  ·cases h
  ·rename_i T e
   split at h
   ·rename_i hx;have hp:=hx.choose_spec;rw[h] at hp;exact(DF.tree (YS AdE e) hp).2
   ·cases h
theorem EK{s:List UInt8}{l:List Ah}(h:AU s=.ok l):s.length≤300∧Cr l=true∧Em l∧l.length≤300∧∀n∈l,n.kids.length≤300:=by
 obtain⟨h3,t,hf,hn,rfl,hd,hl⟩:=OC h;have ht:=t.tree hf;have hc:=t.cnt_le hf hn;have a0:(t.flat 0).length≤300:=by
  rw[Tr.flat_len];have:W t.toks=t.text.length:=rfl;omega
 exact⟨h3,ht,P8 h,a0,λn hm=>Abr (NB ht n hm) a0⟩
theorem PIs.facts{s:List UInt8}{l:List Ah}{e:Int}(h:PIs s l e):Em l∧l.length≤300∧(∀n∈l,n.kids.length≤300)∧Cr l=decide (e=0)∧0≤e∧e≤6:=by
 rcases h with ⟨h,rfl⟩ | ⟨h,rfl,he⟩
 ·obtain⟨_,h1,h2,h3,h4⟩:=EK h;exact⟨h2,h3,h4,by rw[h1];rfl,by omega,by omega⟩
 ·refine⟨λn hn=>(Abu hn).elim,by simp,λn hn=>(Abu hn).elim,?_,by omega,by omega⟩;have:Cr []=false:=rfl;rw[this];simp;omega
theorem MV(w:World):CS w (.slice none 0 0) []:=⟨by simp,.inl ⟨rfl,rfl⟩⟩
theorem DU.both{s:List UInt8}{v:Value}{w:World}{lo:Nat}(h:DU s v w lo):∃l e sv,v=.tuple #[sv,.int .i64 e]∧CS w sv l∧PIs s l e:=by
 have hr:=h.res
 cases hp:AU s with
 | ok l=>
  rw[hp] at hr;obtain⟨sv,rfl,hn⟩:=hr;obtain⟨_,h1,h2,h3,h4⟩:=EK hp
  exact⟨l,0,sv,rfl,hn.row AdE (λn hm=>by have:=h4 n hm;omega),.inl ⟨hp,rfl⟩⟩
 | error e=>
  rw[hp] at hr;refine⟨[],e,_,hr,MV w,.inr ⟨hp,rfl,?_⟩⟩;unfold DU at h;by_cases h1:300<s.length
  ·have:AU s=.error 4:=by unfold AU;rw[if_pos h1]
   rw[this] at hp;simp only[Except.error.injEq] at hp;omega
  ·rw[if_neg h1] at h
   cases hl:Jq s with
   | none=>
    have:AU s=.error 5:=by unfold AU;rw[if_neg h1,hl]
    rw[this] at hp;simp only[Except.error.injEq] at hp
    omega
   | some T=>
    rw[hl] at h;obtain⟨o,a0,_⟩:=h;have:=KQ AdE hl a0;rw[hp] at this;subst this;rcases a0 with h | ⟨h,_⟩
    ·have:=h.errs _ rfl;omega
    ·omega
def Es(l:List Ah)(o:Nat){b:Bool}(t:Tr b):Prop:=∃suf,l.drop o=t.flat o++suf
theorem K7{l:List Ah}{o n:Nat}{x y:List Ah}(h:l.drop o=x++y)(hn:x.length=n):l.drop (o+n)=y:=by
 rw[←List.drop_drop,h,←hn,Ads]
theorem Es.node{l:List Ah}{o:Nat}{t:Tr false}(h:Es l o t):l[o+t.cnt - 1]?=some (DP o t):=by
 obtain⟨suf,h⟩:=h;rw[Dv,AaR] at h;have hb:=WN o t;have e:=K7 h rfl;have e2:o+t.cnt - 1=o+(Qy o t).length:=AdE
 have:=congrArg List.head? e;rw[e2,←List.head?_drop,this];rfl
theorem Es.neg{l:List Ah}{o:Nat}{a:Tr false}(h:Es l o (.neg a)):Es l o a:=by
 obtain⟨suf,h⟩:=h;simp only[Tr.flat,AaR] at h;exact⟨_,h⟩
theorem Es.two{l:List Ah}{o:Nat}{k:Int}{a b:Tr false}(h:Es l o (.two k a b)):Es l o a∧Es l (o+a.cnt) b:=by
 obtain⟨suf,h⟩:=h;simp only[Tr.flat,AaR] at h;exact⟨⟨_,h⟩,_,K7 h (a.flat_len o)⟩
theorem Es.call{l:List Ah}{o:Nat}{x:List UInt8}{ks:Tr true}(h:Es l o (.call x ks)):Es l o ks:=by
 obtain⟨suf,h⟩:=h;simp only[Tr.flat,AaR] at h;exact⟨_,h⟩
theorem Es.snoc{l:List Ah}{o:Nat}{ks:Tr true}{a:Tr false}(h:Es l o (.snoc ks a)):Es l o ks∧Es l (o+ks.cnt) a:=by
 obtain⟨suf,h⟩:=h;simp only[Tr.flat,AaR] at h;exact⟨⟨_,h⟩,_,K7 h (ks.flat_len o)⟩
theorem Es.whole(t:Tr false):Es (t.flat 0) 0 t:=⟨[],by simp⟩
def Tr.row(o:Nat):{b:Bool}→Tr b→List (Nat×Tr false)
 | _,.snoc ks a=>ks.row o++[(o+ks.cnt,a)]
 | _,_=>[]
theorem RD(o:Nat):∀(ks:Tr true),ks.kids o=(ks.row o).map (λx=>((x.1+x.2.cnt - 1:Nat):Int))
 | .nil=>rfl
 | .snoc rs a=>by simp[Tr.kids,Tr.row,RD o rs]
theorem Tr.cnt_pos(t:Tr false):0<t.cnt:=by cases t<;>simp[Tr.cnt]
theorem OO(rs:Tr true)(a:Tr false):(Tr.snoc rs a).text=rs.text++(a.text++[44]):=by
 simp only[Tr.text,Tr.toks,AbF,Ab6,AcQ,Dj,Aby]
theorem OX(x:List UInt8):BJ ⟨3,x,0,Ba,0⟩=x:=rfl
theorem Oe(x:List UInt8)(rs:Tr true)(a:Tr false):(Tr.call x (.snoc rs a)).text=x++([40]++(rs.text++(a.text++[41]))):=by
 simp only[Tr.text,Tr.toks,AbF,Ab6,AcQ,Dj,OX,Aby]
theorem UB{l:List Ah}{o:Nat}:∀(ks:Tr true),ks.Fit→ks.Num→Es l o ks→∀x∈ks.row o,Es l x.1 x.2∧x.2.Fit∧x.2.Num∧x.2.cnt≤ks.cnt∧x.2.text.length≤ks.text.length
 | .nil,_,_,_,x,hx=>by cases hx
 | .snoc rs a,hf,hn,h,x,hx=>by
  have hnr:rs.Num:=λu hu=>hn u AdN;have hna:a.Num:=λu hu=>hn u AdN;have htx:(Tr.snoc rs a).text.length=rs.text.length+a.text.length+1:=by rw[OO];simp only[Aaq,AaL,Abl];omega
  simp only[Tr.row,Abf,Aad] at hx;rcases hx with hx | rfl
  ·obtain⟨h1,h2,h3,h4,h5⟩:=UB rs hf.1 hnr h.snoc.1 x hx;exact⟨h1,h2,h3,by simp only[Tr.cnt];omega,by omega⟩
  ·exact⟨h.snoc.2,hf.2,hna,by simp[Tr.cnt],by simp only;omega⟩
def IR(b:Bool)(s:List UInt8):List UInt8:=if b then[40]++s++[41] else s
theorem Qz(b:Bool)(l:List Ap):(brk b l).flatMap BJ=IR b (l.flatMap BJ):=by
 unfold brk IR
 split<;>simp[Dj]
theorem Ri(a:Tr false):(Tr.neg a).text=[45]++IR (decide (a.rank<5)) a.text:=by
 simp[Tr.text,Tr.toks,Dj,Qz]
theorem Sf(k:Int)(a b:Tr false):(Tr.two k a b).text=IR (decide (a.rank<Db k)) a.text++FL k++IR (decide (b.rank<Db k+1)) b.text:=by
 simp[Tr.text,Tr.toks,Dj,Qz]
def TA(r:List (Nat×Tr false)):List UInt8:=r.flatMap (λx=>x.2.text++[44])
theorem RE(o:Nat):∀(ks:Tr true),ks.text=TA (ks.row o)
 | .nil=>rfl
 | .snoc rs a=>by
  have ih:=RE o rs;simp only[Tr.text] at ih;simp[Tr.text,Tr.toks,Tr.row,TA,ih,Dj]
def LS(r:List (Nat×Tr false)):Nat→List UInt8
 | 0=>[]
 | i+1=>TA (r.take i)++(match r[i]? with
  | some x=>x.2.text
  | none=>[])
theorem We{r:List (Nat×Tr false)}{i:Nat}{x:Nat×Tr false}(h:r[i]?=some x):TA (r.take (i+1))=TA (r.take i)++x.2.text++[44]:=by
 rw[Ab7,h];simp[TA]
theorem OI{r:List (Nat×Tr false)}{i:Nat}{x:Nat×Tr false}(h:r[i]?=some x):LS r (i+1)=LS r i++(if 0<i then[44] else[])++x.2.text:=by
 cases i with
 | zero=>simp[LS,h,TA]
 | succ j=>
  have hj:j<r.length:=by
   rcases AbI j r.length with h' | h'
   ·exact h'
   ·rw[Abs AdE] at h;cases h
  have hy:r[j]?=some r[j]:=Aap hj;simp only[LS,h,hy,We hy];simp
theorem Of(x:List UInt8)(o:Nat)(ks:Tr true):(Tr.call x ks).text=x++[40]++LS (ks.row o) (ks.row o).length++[41]:=by
 rcases ks.snoc_form with rfl | ⟨rs,a,rfl⟩
 ·simp[Tr.text,Tr.toks,Dj,OX,Tr.row,LS]
 ·have hr:=RE o rs;have hl:(rs.row o++[(o+rs.cnt,a)]).length=(rs.row o).length+1:=AdM
  simp only[Tr.row,hl,LS];rw[Oe,hr];simp
theorem O2{n:Ah}(hp:AB n=true)(h0:1≤n.kind)(h1:n.kind≤6):(Tr.leaf n).text=if n.kind=1 then Lib.itoa n.num else if n.kind=2 then Eg n.text else if n.kind=3 then(if n.num=1 then DR else Dm) else if n.kind=4 then Jc else if n.kind=5 then D5 n.ref else D5 n.ref++[58]++D5 n.to:=by
 have ho:=EL hp;have:n.kind=1∨n.kind=2∨n.kind=3∨n.kind=4∨n.kind=5∨n.kind=6:=AdE
 rcases this with h | h | h | h | h | h<;>simp only[IE,h,if_true,if_false,Int.reduceEq,AaY,decide_eq_true_eq] at ho<;>simp[Tr.text,Tr.toks,C1,h,BJ,sg]
 ·rw[D5,if_pos ho]
 ·rw[D5,D5,if_pos ho.1,if_pos ho.2.1]
theorem Wc(o:Nat)(t:Tr false)(hf:t.Fit):Db (DP o t).kind=t.rank:=by
 cases t with
 | leaf n=>
  have h0:=hf.1;have h1:=hf.2.1;show Db n.kind=6;unfold Db
  rw[if_neg AdE,if_neg AdE,if_neg AdE,if_neg AdE,if_neg AdE]
 | neg a=>rfl
 | two k a b=>rfl
 | call x ks=>rfl
theorem WP(b:Bool)(s:List UInt8):s.length≤(IR b s).length∧(IR b s).length≤s.length+2:=by
 unfold IR
 split
 ·simp only[Aaq,AaL,Abl];omega
 ·omega
theorem KT{r:List (Nat×Tr false)}(i:Nat):∀k,i+k≤r.length→(LS r i).length≤(LS r (i+k)).length
 | 0,_=>Abi _
 | k+1,h=>by
  have ih:=KT (r:=r) i k AdE;have hlt:i+k<r.length:=AdE
  have hx:r[i+k]?=some r[i+k]:=Aap hlt;have e:=congrArg List.length (OI hx);simp only[Aaq] at e;rw[←Nat.add_assoc,e];omega
theorem WQ{x:List UInt8}{ks:Tr true}(h:(Tr.call x ks).Num):ks.Num:=by
 rcases ks.snoc_form with rfl | ⟨rs,a,rfl⟩
 ·intro u hu;cases hu
 ·intro u hu;simp only[Tr.toks,Abf,AaT,Abu,or_false] at hu;rcases hu with hu | hu | rfl
  ·exact h u AdN
  ·exact h u AdN
  ·simp[sg]
theorem Tr.num_of:∀{b:Bool} (t:Tr b) (o:Nat),t.Fit→(∀n∈t.flat o,n.num≤9223372036854775807)→t.Num
 | _,.leaf n,o,hf,hs=>by
  have hx:=hs n (by simp[Tr.flat]);intro u hu;have h0:=hf.1;have h1:=hf.2.1;have:n.kind=1∨n.kind=2∨n.kind=3∨n.kind=4∨n.kind=5∨n.kind=6:=AdE
  rcases this with h | h | h | h | h | h<;>simp only[Tr.toks,C1,h,if_true,if_false,Int.reduceEq,AaT,Abu,or_false] at hu
  ·subst hu;exact hx
  ·subst hu;simp
  ·subst hu;simp
  ·subst hu;simp
  ·subst hu;simp
  ·rcases hu with rfl | rfl | rfl<;>simp[sg]
 | _,.neg a,o,hf,hs=>by
  have ha:=num_of a o hf (λn hm=>hs n AdP);intro u hu;simp only[Tr.toks,AaT] at hu;rcases hu with rfl | hu
  ·simp[sg]
  ·rcases Fg hu with hu | rfl | rfl
   ·exact ha u hu
   ·simp[sg]
   ·simp[sg]
 | _,.two k a b,o,hf,hs=>by
  have ha:=num_of a o hf.2.2.1 (λn hm=>hs n AdP);have hb:=num_of b (o+a.cnt) hf.2.2.2 (λn hm=>hs n AdP);intro u hu;simp only[Tr.toks,Abf,AaT] at hu;rcases hu with hu | rfl | hu
  ·rcases Fg hu with hu | rfl | rfl
   ·exact ha u hu
   ·simp[sg]
   ·simp[sg]
  ·simp[sg]
  ·rcases Fg hu with hu | rfl | rfl
   ·exact hb u hu
   ·simp[sg]
   ·simp[sg]
 | _,.call x .nil,o,hf,hs=>by
  intro u hu;simp only[Tr.toks,AaT,Abu,or_false] at hu
  rcases hu with rfl | rfl | rfl<;>simp[sg]
 | _,.call x (.snoc rs a),o,hf,hs=>by
  have hr:=num_of rs o hf.2.1 (λn hm=>hs n AdP);have ha:=num_of a (o+rs.cnt) hf.2.2 (λn hm=>hs n AdP);intro u hu;simp only[Tr.toks,AaT,Abf,Abu,or_false] at hu;rcases hu with rfl | rfl | hu | hu | rfl
  ·simp
  ·simp[sg]
  ·exact hr u hu
  ·exact ha u hu
  ·simp[sg]
 | _,.nil,o,_,_=>λu hu=>by cases hu
 | _,.snoc rs a,o,hf,hs=>by
  have hr:=num_of rs o hf.1 (λn hm=>hs n AdP);have ha:=num_of a (o+rs.cnt) hf.2 (λn hm=>hs n AdP);intro u hu;simp only[Tr.toks,Abf,AaT,Abu,or_false] at hu;rcases hu with hu | hu | rfl
  ·exact hr u hu
  ·exact ha u hu
  ·simp[sg]
theorem Tr.len_le:∀{b:Bool} (t:Tr b) (o:Nat),t.Fit→t.Num→(∀n∈t.flat o,n.text.length≤1000)→t.text.length+cond b 0 1≤4000*t.cnt
 | _,.leaf n,o,hf,hn,hs=>by
  have hx:=hs n (by simp[Tr.flat]);have hc:=(Tr.leaf n).can hf hn;obtain⟨h0,h1,hk,hp⟩:=hf;have ho:=EL hp;have hq:=KR n.text;rw[O2 hp h0 h1];have htb:∀r:Da,Bz r=true→(D5 r).length≤30:=λr hm=>by
   have h2:=OU hm;have h3:=(Ez hm).1;rw[D5,if_pos hm];rcases h3 with h3 | h3
   ·rw[h3] at h2;simp at h2;omega
   ·have:=(FB h3).2.1;omega
  show _+1≤_;simp only[Tr.cnt];have:n.kind=1∨n.kind=2∨n.kind=3∨n.kind=4∨n.kind=5∨n.kind=6:=AdE
  rcases this with h | h | h | h | h | h<;>simp only[IE,h,if_true,if_false,Int.reduceEq,AaY,decide_eq_true_eq] at ho ⊢
  ·have:=Lib.itoa_length_le n.num AdE (hn ⟨1,[],n.num,Ba,0⟩ (by simp[Tr.toks,C1,h]));omega
  ·omega
  ·split<;>simp[DR,Dm]
  ·simp[Jc]
  ·have:=htb _ ho;omega
  ·have:=htb _ ho.1;have:=htb _ ho.2.1
   simp only[Aaq,AaL,Abl];omega
 | _,.neg a,o,hf,hn,hs=>by
  have ha:a.text.length+1≤_:=len_le a o hf (λu hu=>hn u AdW) (λn hm=>hs n AdP);show _+1≤_;rw[Ri];simp only[Tr.cnt,IR]
  split<;>simp only[Aaq,AaL,Abl]<;>omega
 | _,.two k a b,o,hf,hn,hs=>by
  have ha:a.text.length+1≤_:=len_le a o hf.2.2.1 (λu hu=>hn u AdT) (λn hm=>hs n AdP);have hb:b.text.length+1≤_:=len_le b (o+a.cnt) hf.2.2.2 (λu hu=>hn u AdS) (λn hm=>hs n AdP);have a0:∀s∈Bk,s.length≤2:=AdH
  have h2:=a0 _ (IM hf.1 hf.2.1);show _+1≤_;rw[Sf];simp only[Tr.cnt,IR]
  split<;>split<;>simp only[Aaq,AaL,Abl]<;>omega
 | _,.call x .nil,o,hf,hn,hs=>by
  have hx:x.length≤1000:=hs {kind:=7,text:=x,kids:=Tr.nil.kids o} (by simp[Tr.flat]);show _+1≤_;rw[Of x o];simp only[Tr.cnt,Tr.row,LS,Aaq,AaL,Abl]
  omega
 | _,.call x (.snoc rs a),o,hf,hn,hs=>by
  have hx:x.length≤1000:=hs {kind:=7,text:=x,kids:=(Tr.snoc rs a).kids o} (by simp[Tr.flat]);have hr:rs.text.length+0≤_:=len_le rs o hf.2.1 (λu hu=>hn u AdN) (λn hm=>hs n AdP);have ha:a.text.length+1≤_:=len_le a (o+rs.cnt) hf.2.2 (λu hu=>hn u AdN) (λn hm=>hs n AdP);have e:(Tr.call x (.snoc rs a)).text.length=x.length+1+(rs.text.length+(a.text.length+1)):=by
   rw[Oe];simp only[Aaq,AaL,Abl];omega
  show _+1≤_;rw[e];simp only[Tr.cnt]
  omega
 | _,.nil,o,_,_,_=>by show _+0≤_;simp[Tr.text,Tr.toks]
 | _,.snoc rs a,o,hf,hn,hs=>by
  have hr:rs.text.length+0≤_:=len_le rs o hf.1 (λu hu=>hn u AdN) (λn hm=>hs n AdP);have ha:a.text.length+1≤_:=len_le a (o+rs.cnt) hf.2 (λu hu=>hn u AdN) (λn hm=>hs n AdP);have hp:=a.cnt_pos;have e:(Tr.snoc rs a).text.length=rs.text.length+a.text.length+1:=by rw[OO];simp only[Aaq,AaL,Abl];omega
  show _+0≤_;rw[e];simp only[Tr.cnt];omega
def JC(l:List Ah):Prop:=∀t:Tr false,t.Fit→t.flat 0=l→t.Num
theorem X9{l:List Ah}(h:∀n∈l,n.num≤9223372036854775807):JC l:=λt hf e=>t.num_of 0 hf (by rw[e];exact h)
theorem PIs.num{s:List UInt8}{l:List Ah}{e:Int}(h:PIs s l e):JC l:=by
 intro t hf et;rcases h with ⟨h,rfl⟩ | ⟨_,rfl,_⟩
 ·obtain⟨_,_,_,u,hu,hn,e1,_⟩:=Ia h;have:=Tr.inj t u hf hu [] [] (by simpa using et.trans e1.symm) (.inl rfl);rw[this.1];exact hn
 ·have:=t.flat_len 0;rw[et] at this;have:=t.cnt_pos;simp at *;omega
end Go.Proofs.YtcjjcnecopnpcaaGreatDoor
