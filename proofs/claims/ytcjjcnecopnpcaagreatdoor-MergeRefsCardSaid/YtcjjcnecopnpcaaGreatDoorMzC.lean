/-
  Joined by program out of the texts TreeP ShowP ShowQ ShowR ShowS ShowT NodesM ShowU.
-/
import Derived.Test.YtcjjcnecopnpcaaGreatDoorMzB
import Derived.Test.YtcjjcnecopnpcaaGreatDoorMzE
namespace Go.Proofs.YtcjjcnecopnpcaaGreatDoor
open Tryz
open Go Go.E
def BK(T:List Ap):Nat→Gf→Cn→Option HQ
 | 0,_,_=>none
 | n+1,.lev k,s=>match BK T n (below k) s with
  | some (.ok s1 a)=>BK T n (.loop k a) s1
  | some (.err e)=>some (.err e)
  | none=>none
 | n+1,.loop k a,s=>match Jf T s k with
  | none=>some (.ok s a)
  | some i=>match BK T n (below k) (Az s) with
   | some (.ok s1 b)=>BK T n (.loop k s1.out.length) (Cf s1 {kind:=(AP k).getD i 0,kids:=[(a:Int),(b:Int)]})
   | some (.err e)=>some (.err e)
   | none=>none
 | n+1,.unary,s=>if Cx T s [45]=true then(if 12≤s.deep then some (.err 6) else match BK T n .unary (A3 (Az s)) with
   | some (.ok s1 a)=>some (.ok (Cf (CD s1) {kind:=8,kids:=[(a:Int)]}) s1.out.length)
   | some (.err e)=>some (.err e)
   | none=>none) else BK T n .prim s
 | n+1,.prim,s=>
  if (Ad T s).kind=5 then
   if Cx T s [40]=true then(if 12≤s.deep then some (.err 6) else match BK T n (.lev 0) (A3 (Az s)) with
    | some (.ok s1 a)=>if Cx T s1 [41]=true then some (.ok (CD (Az s1)) a) else some (.err 5)
    | some (.err e)=>some (.err e)
    | none=>none)
   else some (.err 5)
  else if (Ad T s).kind=0 then some (.err 5)
  else if (Ad T s).kind=1 then some (.ok (Cf (Az s) {kind:=1,num:=(Ad T s).num}) s.out.length)
  else if (Ad T s).kind=2 then some (.ok (Cf (Az s) {kind:=2,text:=(Ad T s).text}) s.out.length)
  else if (Ad T s).kind=6 then some (.ok (Cf (Az s) {kind:=4}) s.out.length)
  else if (Ad T s).kind=4 then
   if Cx T (Az s) [58]=true then
    if (Ad T (Az (Az s))).kind=4∧BV (Ad T s).ref (Ad T (Az (Az s))).ref=true then some (.ok (Cf (Az (Az (Az s))) {kind:=6,ref:=(Ad T s).ref,to:=(Ad T (Az (Az s))).ref}) s.out.length)
    else some (.err 5)
   else some (.ok (Cf (Az s) {kind:=5,ref:=(Ad T s).ref}) s.out.length)
  else if (Ad T s).kind=3 then
   if (Ad T s).text=Ee then some (.ok (Cf (Az s) {kind:=3,num:=1}) s.out.length)
   else if (Ad T s).text=Dt then some (.ok (Cf (Az s) {kind:=3}) s.out.length)
   else if Cx T (Az s) [40]=true then
    if 12≤s.deep then some (.err 6)
    else if Cx T (A3 (Az (Az s))) [41]=true then some (.ok (Cf (CD (Az (A3 (Az (Az s))))) {kind:=7,text:=(Ad T s).text}) s.out.length)
    else BK T n (.args (Ad T s).text []) (A3 (Az (Az s)))
   else some (.err 5)
  else none
 | n+1,.args x ks,s=>match BK T n (.lev 0) s with
  | some (.ok s1 a)=>if Cx T s1 [44]=true then BK T n (.args x (ks++[(a:Int)])) (Az s1)
   else if Cx T s1 [41]=true then some (.ok (Cf (CD (Az s1)) {kind:=7,text:=x,kids:=ks++[(a:Int)]}) s1.out.length)
   else some (.err 5)
  | some (.err e)=>some (.err e)
  | none=>none
theorem P5{T:List Ap}{s:Cn}{x:List UInt8}(h:Cx T s x=true):(Ad T s).kind=5:=by
 simp[Cx] at h;exact h.1
theorem Aax{T:List Ap}{s:Cn}{x:List UInt8}(h2:(Ad T s).text≠x):Cx T s x=false:=by
 simp[Cx,h2]
theorem PE.eval{T:List Ap}{m:Gf}{s:Cn}{r:HQ}(h:PE T m s r):∃N,∀n,N≤n→BK T n m s=some r:=by
 induction h with
 | lev_err _ ih=>
  obtain⟨N,ih⟩:=ih;refine⟨N+1,λn hn=>?_⟩;obtain⟨n,rfl⟩:∃k,n=k+1:=⟨n - 1,by omega⟩
  simp only[BK,ih n AdV]
 | lev_ok _ _ ih1 ih2=>
  obtain⟨N,ih1⟩:=ih1;obtain⟨M,ih2⟩:=ih2;refine⟨N+M+1,λn hn=>?_⟩;obtain⟨n,rfl⟩:∃k,n=k+1:=⟨n - 1,by omega⟩
  simp only[BK,ih1 n AdV,ih2 n AdV]
 | loop_end h=>
  refine⟨1,λn hn=>?_⟩;obtain⟨n,rfl⟩:∃k,n=k+1:=⟨n - 1,by omega⟩
  simp only[BK,h]
 | loop_err h _ ih=>
  obtain⟨N,ih⟩:=ih;refine⟨N+1,λn hn=>?_⟩;obtain⟨n,rfl⟩:∃k,n=k+1:=⟨n - 1,by omega⟩
  simp only[BK,h,ih n AdV]
 | loop_go h _ _ ih1 ih2=>
  obtain⟨N,ih1⟩:=ih1;obtain⟨M,ih2⟩:=ih2;refine⟨N+M+1,λn hn=>?_⟩;obtain⟨n,rfl⟩:∃k,n=k+1:=⟨n - 1,by omega⟩
  simp only[BK,h,ih1 n AdV,ih2 n AdV]
 | un_prim h _ ih=>
  obtain⟨N,ih⟩:=ih;refine⟨N+1,λn hn=>?_⟩;obtain⟨n,rfl⟩:∃k,n=k+1:=⟨n - 1,by omega⟩
  simp only[BK,h,ih n AdV,AbZ,if_false]
 | un_deep h hd=>
  refine⟨1,λn hn=>?_⟩;obtain⟨n,rfl⟩:∃k,n=k+1:=⟨n - 1,by omega⟩
  simp only[BK,h,hd,if_true]
 | un_err h hd _ ih=>
  obtain⟨N,ih⟩:=ih;refine⟨N+1,λn hn=>?_⟩;obtain⟨n,rfl⟩:∃k,n=k+1:=⟨n - 1,by omega⟩
  simp only[BK,h,ih n AdV,if_true,Ad1.2 hd,if_false]
 | un_ok h hd _ ih=>
  obtain⟨N,ih⟩:=ih;refine⟨N+1,λn hn=>?_⟩;obtain⟨n,rfl⟩:∃k,n=k+1:=⟨n - 1,by omega⟩
  simp only[BK,h,ih n AdV,if_true,Ad1.2 hd,if_false]
 | pr_sign h h2=>
  refine⟨1,λn hn=>?_⟩;obtain⟨n,rfl⟩:∃k,n=k+1:=⟨n - 1,by omega⟩
  simp only[BK,h,if_true,Aax h2,AbZ,if_false]
 | pr_deep h hd=>
  refine⟨1,λn hn=>?_⟩;obtain⟨n,rfl⟩:∃k,n=k+1:=⟨n - 1,by omega⟩
  simp only[BK,P5 h,h,hd,if_true]
 | pr_err h hd _ ih=>
  obtain⟨N,ih⟩:=ih;refine⟨N+1,λn hn=>?_⟩;obtain⟨n,rfl⟩:∃k,n=k+1:=⟨n - 1,by omega⟩
  simp only[BK,P5 h,h,ih n AdV,if_true,Ad1.2 hd,if_false]
 | pr_open h hd _ h2 ih=>
  obtain⟨N,ih⟩:=ih;refine⟨N+1,λn hn=>?_⟩;obtain⟨n,rfl⟩:∃k,n=k+1:=⟨n - 1,by omega⟩
  simp only[BK,P5 h,h,ih n AdV,if_true,Ad1.2 hd,if_false,h2,AbZ]
 | pr_ok h hd _ h2 ih=>
  obtain⟨N,ih⟩:=ih;refine⟨N+1,λn hn=>?_⟩;obtain⟨n,rfl⟩:∃k,n=k+1:=⟨n - 1,by omega⟩
  simp only[BK,P5 h,h,ih n AdV,if_true,Ad1.2 hd,if_false,h2]
 | pr_end h | pr_num h | pr_text h | pr_dead h=>
  refine⟨1,λn hn=>?_⟩;obtain⟨n,rfl⟩:∃k,n=k+1:=⟨n - 1,by omega⟩
  simp[BK,h]
 | pr_ref h h2 | pr_true h h2 | pr_false h h2=>
  refine⟨1,λn hn=>?_⟩;obtain⟨n,rfl⟩:∃k,n=k+1:=⟨n - 1,by omega⟩
  simp[BK,h,h2,Ee,Dt]
 | pr_norange h h2 h3=>
  refine⟨1,λn hn=>?_⟩;obtain⟨n,rfl⟩:∃k,n=k+1:=⟨n - 1,by omega⟩;have h4:¬((Ad T (Az (Az _))).kind=4∧BV (Ad T _).ref (Ad T (Az (Az _))).ref=true):=λhh=>by
   rcases h3 with h3 | h3
   ·exact h3 hh.1
   ·rw[hh.2] at h3;cases h3
  simp only[BK,h,h2,if_neg h4]
  rfl
 | pr_range h h2 h3 h4=>
  refine⟨1,λn hn=>?_⟩;obtain⟨n,rfl⟩:∃k,n=k+1:=⟨n - 1,by omega⟩
  simp[BK,h,h2,h3,h4]
 | pr_nocall h h2 h3 h4=>
  refine⟨1,λn hn=>?_⟩;obtain⟨n,rfl⟩:∃k,n=k+1:=⟨n - 1,by omega⟩
  simp[BK,h,h2,h3,h4]
 | pr_calldeep h h2 h3 h4 h5=>
  refine⟨1,λn hn=>?_⟩;obtain⟨n,rfl⟩:∃k,n=k+1:=⟨n - 1,by omega⟩
  simp[BK,h,h2,h3,h4,h5]
 | pr_call0 h h2 h3 h4 h5 h6=>
  refine⟨1,λn hn=>?_⟩;obtain⟨n,rfl⟩:∃k,n=k+1:=⟨n - 1,by omega⟩
  simp[BK,h,h2,h3,h4,Ad1.2 h5,h6]
 | pr_call h h2 h3 h4 h5 h6 _ ih=>
  obtain⟨N,ih⟩:=ih;refine⟨N+1,λn hn=>?_⟩;obtain⟨n,rfl⟩:∃k,n=k+1:=⟨n - 1,by omega⟩;have:=ih n AdV
  simp[BK,h,h2,h3,h4,Ad1.2 h5,h6,this]
 | ar_err _ ih=>
  obtain⟨N,ih⟩:=ih;refine⟨N+1,λn hn=>?_⟩;obtain⟨n,rfl⟩:∃k,n=k+1:=⟨n - 1,by omega⟩
  simp only[BK,ih n AdV]
 | ar_go _ h _ ih1 ih2=>
  obtain⟨N,ih1⟩:=ih1;obtain⟨M,ih2⟩:=ih2;refine⟨N+M+1,λn hn=>?_⟩;obtain⟨n,rfl⟩:∃k,n=k+1:=⟨n - 1,by omega⟩
  simp only[BK,ih1 n AdV,h,if_true,ih2 n AdV]
 | ar_open _ h h2 ih=>
  obtain⟨N,ih⟩:=ih;refine⟨N+1,λn hn=>?_⟩;obtain⟨n,rfl⟩:∃k,n=k+1:=⟨n - 1,by omega⟩
  simp only[BK,ih n AdV,h,h2,AbZ,if_false]
 | ar_end _ h h2 ih=>
  obtain⟨N,ih⟩:=ih;refine⟨N+1,λn hn=>?_⟩;obtain⟨n,rfl⟩:∃k,n=k+1:=⟨n - 1,by omega⟩;simp only[BK,ih n AdV,h,h2,AbZ,if_false,if_true]
theorem PE.det{T:List Ap}{m:Gf}{s:Cn}{r r':HQ}(h:PE T m s r)(h':PE T m s r'):r=r':=by
 obtain⟨N,h⟩:=h.eval;obtain⟨M,h'⟩:=h'.eval;have:=(h (N+M) AdV).symm.trans (h' (N+M) AdV)
 simpa using this
theorem DP.det{T:List Ap}{o o':Except Int (List Ag)}(h:DP T o)(h':DP T o'):o=o':=by
 unfold DP at h h'
 split at h<;>split at h'
 ·rcases h with h | ⟨rfl,s,a,h,hk⟩<;>rcases h' with h' | ⟨rfl,s',a',h',a0⟩
  ·have:=h.det h';simp only[HQ.err.injEq] at this;rw[this]
  ·cases h.det h'
  ·cases h.det h'
  ·rfl
 ·obtain⟨s',a',h',a0,rfl⟩:=h';rcases h with h | ⟨rfl,s,a,h,hk⟩
  ·cases h.det h'
  ·have:=h.det h';simp only[HQ.ok.injEq] at this;obtain⟨rfl,rfl⟩:=this;exact absurd a0 hk
 ·obtain⟨s,a,h,hk,rfl⟩:=h;rcases h' with h' | ⟨rfl,s',a',h',a0⟩
  ·cases h.det h'
  ·have:=h.det h';simp only[HQ.ok.injEq] at this;obtain⟨rfl,rfl⟩:=this;exact absurd hk a0
 ·obtain⟨s,a,h,hk,rfl⟩:=h;obtain⟨s',a',h',a0,rfl⟩:=h';have:=h.det h';simp only[HQ.ok.injEq] at this;rw[this.1]
structure JO(t:Ap):Prop where
 num:t.kind=1→0≤t.num
 text:t.kind=2→NW t.text=true
 word:t.kind=3→NI t.text=true∧B0 t.text=false
 ref:t.kind=4→BA t.ref=true
 len:t.text.length≤1000
theorem R0{c:UInt8}{l:List UInt8}(hc:¬c<32)(h:NW l=true):NW (c::l)=true:=by
 simp only[NW,decide_eq_true_eq] at h ⊢;intro j hj
 cases j with
 | zero=>
  show 32≤(c.toNat:Int);have:¬c.toNat<32:=λhh=>hc (Adc.2 (by simpa using hh))
  omega
 | succ j=>exact h j AeG
theorem Mh:∀(l:List UInt8) {x:List UInt8×Nat},AV l=some x→NW x.1=true∧x.1.length≤l.length
 | [],x,h=>by simp[AV] at h
 | [c],x,h=>by
  simp only[AV] at h
  split at h
  ·simp only[Aa3] at h;subst h;exact⟨rfl,by simp⟩
  ·cases h
 | c::d::r,x,h=>by
  simp only[AV] at h
  split at h
  ·split at h
   ·cases e:AV r with
    | none=>rw[e] at h;cases h
    | some y=>
     rw[e] at h;simp only[AbM,Aa3] at h;have:=Mh r e;subst h;exact⟨R0 AdZ this.1,by simp;omega⟩
   ·simp only[Aa3] at h;subst h;exact⟨rfl,by simp⟩
  ·split at h
   ·cases h
   ·rename_i hc
    cases e:AV (d::r) with
    | none=>rw[e] at h;cases h
    | some y=>
     rw[e] at h;simp only[AbM,Aa3] at h;have:=Mh (d::r) e;subst h;exact⟨R0 hc this.1,by have:=this.2;simp at this ⊢;omega⟩
theorem Tp{s:List UInt8}(h:B0 s=true):BA (Ek s)=true:=by
 simp only[B0,AaG,decide_eq_true_eq,Adh,decide_eq_false_iff_not] at h
 cases hm:BA (Ek s) with
 | true=>rfl
 | false=>
  have:=h.1.2;rw[DB,hm] at this;exact absurd this.symm h.2
theorem Zs{l:List UInt8}{t:Ap}{k:Nat}(hl:l.length≤1000)(h:Dv l=some (t,k)):JO t:=by
 unfold Dv at h
 split at h
 ·rename_i h0;have a0:Aq AD l≠[]:=by
   have:=(Kv (p:=AD) (l:=l) (by
    cases l with
    | nil=>cases h0
    | cons a b=>simp) h0).1
   exact AbS.1 this
  rw[PI a0] at h
  split at h
  ·simp only[Aa3,AbK] at h;rw[←h.1];exact⟨λ_=>(IQ _ (λj hj=>by
   have hh:=Iw AD l _ (Acm hj)
   simpa[Ai,AaE,B7 hj] using hh)).1,by simp,by simp,by simp,by simp⟩
  ·cases h
 ·split at h
  ·unfold GS at h
   cases e:AV (l.drop 1) with
   | none=>rw[e] at h;cases h
   | some x=>
    rw[e] at h;simp only[AbM,Aa3,AbK] at h;have:=Mh _ e;rw[←h.1];exact⟨by simp,λ_=>this.1,by simp,by simp,by have:=this.2;simp at this ⊢;omega⟩
  ·split at h
   ·unfold I1 at h;simp only at h;have a1:=Jb K0 l
    split at h
    ·rename_i hr;simp only[Aa3,AbK] at h;rw[←h.1];exact⟨by simp,by simp,by simp,λ_=>Tp hr,by simp⟩
    ·rename_i hr
     split at h
     ·rename_i hf;simp only[Aa3,AbK] at h;rw[←h.1];exact⟨by simp,by simp,λ_=>⟨hf,by simpa using hr⟩,by simp,by show(Aq K0 l).length≤1000;omega⟩
     ·cases h
   ·unfold HM at h
    split at h
    ·simp only[Aa3,AbK] at h;rw[←h.1];exact⟨by simp,by simp,by simp,by simp,by simp⟩
    ·cases e:Bp.find? λs=>Lib.hasPrefix l s with
     | none=>rw[e] at h;cases h
     | some x=>
      rw[e] at h;simp only[AbM,Aa3,AbK] at h;have:=Nm (AdQ e);rw[←h.1];exact⟨by simp,by simp,by simp,by simp,by show x.length≤1000;omega⟩
theorem Pf(a:Int):JO ⟨0,[],0,Bh,a⟩:=⟨by simp,by simp,by simp,by simp,by simp⟩
theorem Ug:∀(n:Nat) (l:List UInt8) (a:Nat) {out:List Ap},l.length≤n→l.length≤1000→Gv l a=some out→∀t∈out,JO t
 | n,l,a,out,hn,hl,h=>by
  cases e:l.drop (Aq JG l).length with
  | nil=>
   rw[GG e] at h;simp only[Aa3] at h;subst h;intro t ht;rw[B3.1 ht]
   exact Pf _
  | cons c r=>
   have hl':=congrArg List.length e;simp at hl'
   cases ho:Dv (c::r) with
   | none=>rw[Ie e Aei ho] at h;cases h
   | some x=>
    obtain⟨t,k⟩:=x;have hk:=GL Aei ho;have hok:=Zs AdY ho;rw[IG e Aei ho hk] at h
    cases hr:Gv ((c::r).drop k) (a+(Aq JG l).length+k) with
    | none=>rw[hr] at h;cases h
    | some y=>
     rw[hr] at h;simp only[AbM,Aa3] at h;subst h
     match n with
     | 0=>omega
     | n+1=>
      have hd:((c::r).drop k).length=r.length+1 - k:=Aei
      have:=Ug n ((c::r).drop k) _ Afj Afj hr;intro t' ht;rcases AaH.1 ht with rfl | ht
      ·exact⟨hok.num,hok.text,hok.word,hok.ref,hok.len⟩
      ·exact this t' ht
theorem Zm{s:List UInt8}{T:List Ap}(hs:s.length≤1000)(h:Jw s=some T):∀t∈T,JO t:=Ug _ s 0 (Abv _) hs h
theorem FY{T:List Ap}(h:∀t∈T,JO t)(s:Cn):JO (Ad T s):=by
 unfold Ad;rcases Ach s.at_ T.length with hl | hl
 ·rw[AaE,B7 hl];exact h _ (Acm hl)
 ·rw[AaE,AbI hl];exact Pf 0
theorem DV:∀(l m:List Ag) (i:Nat) (st:List Int),B5 i st (l++m)=(B5 i st l).bind λst'=>B5 (i+l.length) st' m
 | [],m,i,st=>by simp[B5]
 | n::t,m,i,st=>by
  rw[Aco,B5,B5]
  cases DN i st n with
  | none=>rfl
  | some st'=>
   simp only;rw[DV t m (i+1) st',AaF,show i+1+t.length=i+(t.length+1) by omega]
theorem Ix{l:List Ag}{i:Nat}{st st' ks:List Int}{n:Ag}(h:B5 i st l=some (st'++ks))(hk:n.kids=ks)(hc:Jt n=n.kids.length)(hp:AH n=true):B5 i st (l++[n])=some (st'++[((i+l.length:Nat):Int)]):=by
 subst hk;rw[DV,h];simp only[Ac6,B5,DN];have e:(st'++n.kids).length - n.kids.length=st'.length:=Aei
 rw[e,if_pos ⟨hc,by simp,by simp,hp⟩];simp
theorem C9{n:Ag}(h:IR n=true)(hb:(Br n).num=0∧(Br n).text=[]∧(Br n).ref=Bh∧(Br n).to=Bh):AH n=true:=by
 simp[AH,h,hb]
def Gg(s s1:Cn)(ks:List Int)(a:Nat):Prop:=
 ∃new,s1.out=s.out++new∧E0 new∧∀st,B5 s.out.length (st++ks) new=some (st++[(a:Int)])
theorem Gg.same{s s1 s2 s3:Cn}{ks:List Int}{a:Nat}(h:Gg s s1 ks a)(e1:s2.out=s.out)(e2:s3.out=s1.out):Gg s2 s3 ks a:=by
 obtain⟨new,h1,h2,h3⟩:=h;exact⟨new,by rw[e2,e1,h1],h2,by rw[e1];exact h3⟩
theorem OX{l m:List Ag}(h:E0 l)(k:E0 m):E0 (l++m):=λn hn=>by
 rcases AaC.1 hn with hn | hn
 ·exact h n hn
 ·exact k n hn
theorem Gg.nil(s s1:Cn)(a:Nat)(e:s1.out=s.out):Gg s s1 [(a:Int)] a:=⟨[],by simp[e],(λn hn=>by cases hn),λst=>by simp[B5]⟩
theorem Gg.trans{s s1 s2:Cn}{ks:List Int}{a b:Nat}(h:Gg s s1 ks a)(k:Gg s1 s2 [(a:Int)] b):Gg s s2 ks b:=by
 obtain⟨n1,e1,p1,t1⟩:=h;obtain⟨n2,e2,p2,t2⟩:=k;refine⟨n1++n2,by rw[e2,e1,B8],OX p1 p2,λst=>?_⟩;rw[DV,t1];simp only[Ac6];have:=t2 st;rw[e1,B6] at this;exact this
theorem Gg.more{s s1 s2:Cn}{ks ks1:List Int}{a b:Nat}(h:Gg s s1 ks a)(k:Gg s1 s2 (ks1++[(a:Int)]) b):Gg s s2 (ks1++ks) b:=by
 obtain⟨n1,e1,p1,t1⟩:=h;obtain⟨n2,e2,p2,t2⟩:=k;refine⟨n1++n2,by rw[e2,e1,B8],OX p1 p2,λst=>?_⟩;rw[DV,←List.append_assoc,t1];simp only[Ac6];have:=t2 st;rw[e1,B6] at this;rw[B8];exact this
theorem Gg.node{s s2 s3:Cn}{n:Ag}{ks:List Int}(hk:n.kids=ks)(hc:Jt n=n.kids.length)(hp:AH n=true)(hs:n.text.length≤1000∧n.ref.sheet.length≤1000∧n.to.sheet.length≤1000)(e:s3.out=s.out++[n])(e2:s2.out=s.out):Gg s2 s3 ks s.out.length:=by
 refine⟨[n],by rw[e,e2],λx hx=>by rw[B3.1 hx];exact hs,λst=>?_⟩;have:=Ix (l:=[]) (i:=s2.out.length) (st:=st++ks) (st':=st) (ks:=ks) rfl hk hc hp
 simpa[e2] using this
theorem Iv{x:CH}(h:BA x=true):x.sheet.length≤1000:=by
 simp only[BA,AaG,Acn,decide_eq_true_eq] at h;rcases h.1.1.1.1 with h | h
 ·rw[h];simp
 ·simp only[DM,AaG,decide_eq_true_eq] at h;omega
theorem Ba:Bh.sheet.length≤1000:=by decide
def AaN(m:Gf)(s:Cn):HQ→Prop
 | .err _=>True
 | .ok s1 b=>match m with
  | .loop _ a=>Gg s s1 [(a:Int)] b
  | .args x ks=>CV x=true→Gg s s1 ks b
  | _=>Gg s s1 [] b
theorem Nn{n:Nat}{s s1:Cn}{a:Nat}(h:AaN (below n) s (.ok s1 a)):Gg s s1 [] a:=by
 unfold below at h
 split at h<;>exact h
theorem Vv{T:List Ap}{s:Cn}{n i:Nat}(h:Jf T s n=some i):9≤(AP n).getD i 0∧(AP n).getD i 0≤19:=by
 unfold Jf at h
 split at h
 ·have hi:=(AbN.1 h).1;have e:(Cd n).length=(AP n).length:=by
   unfold Cd AP
   match n with
   | 0=>rfl
   | 1=>rfl
   | 2=>rfl
   | _+3=>rfl
  have a0:∀z∈AP n,9≤z∧z≤19:=by
   unfold AP
   match n with
   | 0=>decide
   | 1=>decide
   | 2=>decide
   | _+3=>
    show ∀z∈[18,19],(9:Int)≤z∧z≤19
    decide
  rw[AaE,B7 AdV];exact a0 _ (Acm _)
 ·cases h
theorem NF{k:Int}(h0:9≤k)(h1:k≤19)(a b:Int):Jt {kind:=k,kids:=[a,b]}=2∧AH {kind:=k,kids:=[a,b]}=true:=by
 have hc:Ds k=2:=by
  unfold Ds;rw[if_neg AdV,if_neg AdV,if_neg AdV,if_pos AdV]
 constructor
 ·simp[Jt,hc]
 ·have hb:Br {kind:=k,kids:=[a,b]}={kind:=k,kids:=[a,b]}:=by
   unfold Br;rw[if_neg (show ¬k=1 by omega),if_neg (show ¬k=3 by omega),if_neg (show ¬k=2 by omega),if_neg (show ¬k=7 by omega),if_neg (show ¬k=5 by omega),if_neg (show ¬k=6 by omega)]
  have ho:IR {kind:=k,kids:=[a,b]}=true:=by
   unfold IR;rw[if_neg (show ¬k=1 by omega),if_neg (show ¬k=3 by omega),if_neg (show ¬k=2 by omega),if_neg (show ¬k=7 by omega),if_neg (show ¬k=5 by omega),if_neg (show ¬k=6 by omega)]
  exact C9 ho (by rw[hb];exact⟨rfl,rfl,rfl,rfl⟩)
theorem I7{x:List UInt8}(h:CV x=true)(ks:List Int):Jt {kind:=7,text:=x,kids:=ks}=ks.length∧AH {kind:=7,text:=x,kids:=ks}=true:=by
 refine⟨if_pos rfl,C9 h ⟨rfl,rfl,rfl,rfl⟩⟩
theorem MT{x:List UInt8}(h:CV x=true):x.length≤1000:=by
 simp only[CV,NI,AaG,decide_eq_true_eq] at h;omega
theorem Pj{T:List Ap}(hT:∀t∈T,JO t){s:Cn}(h:(Ad T s).kind=3)(h1:(Ad T s).text≠Ee)(h2:(Ad T s).text≠Dt):CV (Ad T s).text=true:=by
 have:=(FY hT s).word h;simp[CV,this,h1,h2]
theorem PE.puts{T:List Ap}(hT:∀t∈T,JO t){m:Gf}{s:Cn}{r:HQ}(h:PE T m s r):AaN m s r:=by
 induction h with
 | lev_err _ _=>trivial
 | @lev_ok n s s1 a r _ _ ih1 ih2=>
  cases r with
  | err e=>trivial
  | ok s2 b=>exact(Nn ih1).trans ih2
 | loop_end _=>exact Gg.nil _ _ _ rfl
 | loop_err _ _ _=>trivial
 | @loop_go n s a i s1 b r hi _ _ ih1 ih2=>
  cases r with
  | err e=>trivial
  | ok s2 c=>
   obtain⟨k0,k1⟩:=Vv hi;have hn:=NF k0 k1 (a:Int) (b:Int);have hp:Gg s1 (Cf s1 {kind:=(AP n).getD i 0,kids:=[(a:Int),(b:Int)]}) ([(a:Int)]++[(b:Int)]) s1.out.length:=Gg.node (s:=s1) rfl hn.1 hn.2 ⟨by simp,Ba,Ba⟩ rfl rfl;have h1:Gg s s1 [] b:=(Nn ih1).same rfl rfl;have:=h1.more hp
   exact this.trans ih2
 | @un_prim s r _ _ ih=>
  cases r with
  | err e=>trivial
  | ok s2 b=>exact ih
 | un_deep _ _=>trivial
 | un_err _ _ _ _=>trivial
 | @un_ok s s1 a _ _ _ ih=>
  have h1:Gg s s1 [] a:=Gg.same ih rfl rfl;have hp:Gg s1 (Cf (CD s1) {kind:=8,kids:=[(a:Int)]}) ([]++[(a:Int)]) s1.out.length:=Gg.node (s:=s1) rfl rfl rfl ⟨by simp,Ba,Ba⟩ rfl rfl
  exact h1.more hp
 | pr_sign _ _=>trivial
 | pr_deep _ _=>trivial
 | pr_err _ _ _ _=>trivial
 | pr_open _ _ _ _ _=>trivial
 | pr_ok _ _ _ _ ih=>exact Gg.same ih rfl rfl
 | pr_end _=>trivial
 | @pr_num s h=>
  have h0:=(FY hT s).num h
  exact Gg.node (s:=s) rfl rfl (C9 (by show decide (0≤(Ad T s).num)=true;simpa using h0) ⟨rfl,rfl,rfl,rfl⟩) ⟨by simp,Ba,Ba⟩ rfl rfl
 | @pr_text s h=>
  exact Gg.node (s:=s) rfl rfl (C9 (by show NW (Ad T s).text=true;exact(FY hT s).text h) ⟨rfl,rfl,rfl,rfl⟩) ⟨(FY hT s).len,Ba,Ba⟩ rfl rfl
 | @pr_dead s h=>exact Gg.node (s:=s) rfl rfl rfl ⟨by simp,Ba,Ba⟩ rfl rfl
 | @pr_ref s h _=>
  have h0:=(FY hT s).ref h
  exact Gg.node (s:=s) rfl rfl (C9 (by show BA (Ad T s).ref=true;exact h0) ⟨rfl,rfl,rfl,rfl⟩) ⟨by simp,Iv h0,Ba⟩ rfl rfl
 | @pr_range s h _ h' hr=>
  have h0:=(FY hT s).ref h;have h1:=(FY hT (Az (Az s))).ref h'
  exact Gg.node (s:=s) rfl rfl (C9 (by show(BA (Ad T s).ref&&(BA (Ad T (Az (Az s))).ref&&BV (Ad T s).ref (Ad T (Az (Az s))).ref))=true;rw[h0,h1,hr];rfl) ⟨rfl,rfl,rfl,rfl⟩) ⟨by simp,Iv h0,Iv h1⟩ rfl rfl
 | pr_norange _ _ _=>trivial
 | @pr_true s _ _=>exact Gg.node (s:=s) rfl rfl rfl ⟨by simp,Ba,Ba⟩ rfl rfl
 | @pr_false s _ _=>exact Gg.node (s:=s) rfl rfl rfl ⟨by simp,Ba,Ba⟩ rfl rfl
 | pr_nocall _ _ _ _=>trivial
 | pr_calldeep _ _ _ _ _=>trivial
 | @pr_call0 s h h1 h2 _ _ _=>
  have hn:=Pj hT h h1 h2;have hc:=I7 hn []
  exact Gg.node (s:=s) rfl hc.1 hc.2 ⟨MT hn,Ba,Ba⟩ rfl rfl
 | @pr_call s r h h1 h2 _ _ _ _ ih=>
  cases r with
  | err e=>trivial
  | ok s2 b=>exact Gg.same (ih (Pj hT h h1 h2)) rfl rfl
 | ar_err _ _=>trivial
 | @ar_go x ks s s1 a r _ _ _ ih1 ih2=>
  cases r with
  | err e=>trivial
  | ok s2 b=>
   intro hn;have h2:Gg s1 s2 (ks++[(a:Int)]) b:=Gg.same (ih2 hn) rfl rfl;have h1:Gg s s1 [] a:=ih1;have:=h1.more h2
   rwa [AbG] at this
 | ar_open _ _ _ _=>trivial
 | @ar_end x ks s s1 a _ _ _ ih=>
  intro hn;have hc:=I7 hn (ks++[(a:Int)]);have hp:Gg s1 (Cf (CD (Az s1)) {kind:=7,text:=x,kids:=ks++[(a:Int)]}) (ks++[(a:Int)]) s1.out.length:=Gg.node (s:=s1) rfl hc.1 hc.2 ⟨MT hn,Ba,Ba⟩ rfl rfl;have h1:Gg s s1 [] a:=ih;have:=h1.more hp
  rwa [AbG] at this
theorem DP.tree{T:List Ap}{l:List Ag}(hT:∀t∈T,JO t)(h:DP T (.ok l)):Cw l=true∧E0 l:=by
 obtain⟨s,a,hp,_,he⟩:=h;obtain⟨new,h1,h2,h3⟩:Gg ⟨0,[],0⟩ s [] a:=hp.puts hT;have:l=new:=by rw[←he,h1];rfl
 subst this;refine⟨?_,h2⟩;have h4:B5 0 [] l=some [(a:Int)]:=h3 [];rw[Cw,h4];rfl
def Ki:List (List UInt8):=[[61],[60,62],[60],[60,61],[62],[62,61],[38],[43],[45],[42],[47]]
theorem Zt{u:Nat}(hu:u≤9223372036854775807){R:List UInt8}(hR:R=[]∨AD (Ai R 0)=false):Dv (Lib.decDigits u++R)=some (⟨1,[],u,Bh,0⟩,(Lib.decDigits u).length):=by
 obtain⟨h1,h2,h3,h4,h5⟩:=F4 u u (Abv _);have h0:AD (Ai (Lib.decDigits u++R) 0)=true:=by
  rw[EB h2];obtain⟨c,hm,e⟩:=FF (AbS.2 h2);rw[e];exact h1 c hm
 have hs:Aq AD (Lib.decDigits u++R)=Lib.decDigits u:=by
  rw[Gl AD _ R h1];have:Aq AD R=[]:=by
   rcases hR with rfl | h
   ·rfl
   ·cases R with
    | nil=>rfl
    | cons c r=>
     have:AD (c.toNat:Int)=false:=h;simp[Aq,this]
  rw[this,AbG]
 have hc:((u:Nat):Int)≤9223372036854775807∧(Ai (Lib.decDigits u) 0≠48∨(Lib.decDigits u).length=1):=by
  refine⟨by omega,?_⟩;by_cases hz:u=0
  ·exact .inr (h5 hz)
  ·exact .inl (h4 hz)
 rw[Dv,h0,if_pos rfl,PI (by rw[hs];exact h2),hs,h3,if_pos hc]
theorem V7{X R:List UInt8}{t:Ap}{a:Nat}(hX:X≠[])(hb:Ai X 0≠32)(h1:Dv (X++R)=some (t,X.length)):Gv (X++R) a=(Gv R (a+X.length)).map ({t with at_:=(a:Int)}::·):=by
 have hs:Aq JG (X++R)=[]:=by
  cases X with
  | nil=>exact absurd rfl hX
  | cons c r=>
   have:JG (c.toNat:Int)=false:=by simp[JG];exact hb
   simp[Aq,this]
 have:=IG (l:=X++R) (l':=X++R) (a:=a) (t:=t) (k:=X.length) (by rw[hs];rfl) (by simp[hX]) h1 (AbS.2 hX);rw[this,hs];simp
theorem M0(u:Nat):AD (Ai (Lib.decDigits u) 0)=true∧Lib.decDigits u≠[]∧Ai (Lib.decDigits u) 0≠32:=by
 obtain⟨h1,h2,_⟩:=F4 u u (Abv _);obtain⟨c,hm,e⟩:=FF (AbS.2 h2);exact⟨by rw[e];exact h1 c hm,h2,Xg h2 h1⟩
inductive Tr:Bool→Type where
 | leaf (n:Ag):Tr false
 | neg (a:Tr false):Tr false
 | two (k:Int) (a b:Tr false):Tr false
 | call (x:List UInt8) (ks:Tr true):Tr false
 | nil:Tr true
 | snoc (ks:Tr true) (a:Tr false):Tr true
def Tr.cnt:{b:Bool}→Tr b→Nat
 | _,.leaf _=>1
 | _,.neg a=>a.cnt+1
 | _,.two _ a b=>a.cnt+b.cnt+1
 | _,.call _ ks=>ks.cnt+1
 | _,.nil=>0
 | _,.snoc ks a=>ks.cnt+a.cnt
def Tr.kids(o:Nat):{b:Bool}→Tr b→List Int
 | _,.snoc ks a=>ks.kids o++[((o+ks.cnt+a.cnt - 1:Nat):Int)]
 | _,_=>[]
def Tr.flat:(o:Nat)→{b:Bool}→Tr b→List Ag
 | _,_,.leaf n=>[n]
 | o,_,.neg a=>a.flat o++[{kind:=8,kids:=[((o+a.cnt - 1:Nat):Int)]}]
 | o,_,.two k a b=>a.flat o++b.flat (o+a.cnt)++[{kind:=k,kids:=[((o+a.cnt - 1:Nat):Int),((o+a.cnt+b.cnt - 1:Nat):Int)]}]
 | o,_,.call x ks=>ks.flat o++[{kind:=7,text:=x,kids:=ks.kids o}]
 | _,_,.nil=>[]
 | o,_,.snoc ks a=>ks.flat o++a.flat (o+ks.cnt)
def Tr.Fit:{b:Bool}→Tr b→Prop
 | _,.leaf n=>1≤n.kind∧n.kind≤6∧n.kids=[]∧AH n=true
 | _,.neg a=>a.Fit
 | _,.two k a b=>9≤k∧k≤19∧a.Fit∧b.Fit
 | _,.call x ks=>CV x=true∧ks.Fit
 | _,.nil=>True
 | _,.snoc ks a=>ks.Fit∧a.Fit
theorem Tr.flat_len:∀{b:Bool} (t:Tr b) (o:Nat),(t.flat o).length=t.cnt
 | _,.leaf n,o=>rfl
 | _,.neg a,o=>by simp[Tr.flat,Tr.cnt,flat_len a]
 | _,.two k a b,o=>by simp[Tr.flat,Tr.cnt,flat_len a,flat_len b];omega
 | _,.call x ks,o=>by simp[Tr.flat,Tr.cnt,flat_len ks]
 | _,.nil,o=>rfl
 | _,.snoc ks a,o=>by simp[Tr.flat,Tr.cnt,flat_len ks,flat_len a]
theorem Tr.snoc_form(ts:Tr true):ts=.nil∨∃ks a,ts=.snoc ks a:=by
 cases ts with
 | nil=>exact .inl rfl
 | snoc ks a=>exact .inr ⟨ks,a,rfl⟩
theorem Tr.split(k:Nat):∀(ts:Tr true),ts.Fit→k≤(ts.kids 0).length→∃ts1 ks:Tr true,ts.flat 0=ts1.flat 0++ks.flat ts1.cnt∧ts.kids 0=ts1.kids 0++ks.kids ts1.cnt∧(ks.kids ts1.cnt).length=k∧ts.cnt=ts1.cnt+ks.cnt∧ts1.Fit∧ks.Fit:=by
 induction k with
 | zero=>exact λts hf _=>⟨ts,.nil,by simp[Tr.flat],by simp[Tr.kids],rfl,rfl,hf,trivial⟩
 | succ k ih=>
  intro ts hf hk;rcases Tr.snoc_form ts with rfl | ⟨rs,a,rfl⟩
  ·simp[Tr.kids] at hk
  ·simp only[Tr.kids,B6,AbO] at hk;obtain⟨ts1,ks,h1,h2,h3,h4,h5,h6⟩:=ih rs hf.1 AdV;refine⟨ts1,.snoc ks a,?_,?_,?_,?_,h5,h6,hf.2⟩
   ·simp only[Tr.flat,h1,h4,B8,Acd]
   ·simp only[Tr.kids,h2,h4,B8,Acd]
   ·simp only[Tr.kids,B6,h3,AbO]
   ·simp only[Tr.cnt,h4,AcG]
theorem Vu{n:Ag}(h:Jt n=n.kids.length):(1≤n.kind∧n.kind≤6∧n.kids=[])∨n.kind=7∨(n.kind=8∧n.kids.length=1)∨(9≤n.kind∧n.kind≤19∧n.kids.length=2):=by
 unfold Jt Ds at h;by_cases h1:n.kind<1∨19<n.kind
 ·rw[if_pos h1,if_neg AdZ] at h;omega
 rw[if_neg h1] at h;by_cases h2:n.kind=7
 ·exact .inr (.inl h2)
 rw[if_neg h2] at h;by_cases h3:n.kind=8
 ·rw[if_pos h3,if_neg AdZ] at h;exact .inr (.inr (.inl ⟨h3,by omega⟩))
 rw[if_neg h3] at h;by_cases h4:8<n.kind
 ·rw[if_pos h4,if_neg AdZ] at h;exact .inr (.inr (.inr ⟨by omega,by omega,by omega⟩))
 ·rw[if_neg h4,if_neg AdZ] at h;exact .inl ⟨by omega,by omega,AbF AdV⟩
theorem Oh{n:Ag}(hp:AH n=true)(hk:8≤n.kind):n={kind:=n.kind,kids:=n.kids}:=by
 simp only[AH,AaG,decide_eq_true_eq] at hp;have hb:Br n=n:=by
  unfold Br;rw[if_neg AdV,if_neg AdV,if_neg AdV,if_neg AdV,if_neg AdV,if_neg AdV]
 rw[hb] at hp;obtain⟨_,h1,h2,h3,h4⟩:=hp;cases n;simp_all
theorem UR{n:Ag}(hp:AH n=true)(hk:n.kind=7):n={kind:=7,text:=n.text,kids:=n.kids}∧CV n.text=true:=by
 simp only[AH,AaG,decide_eq_true_eq] at hp;have hb:Br n={n with text:=[]}:=by
  unfold Br;rw[if_neg AdV,if_neg AdV,if_neg AdV,if_pos hk]
 have ho:IR n=CV n.text:=by
  unfold IR;rw[if_neg AdV,if_neg AdV,if_neg AdV,if_pos hk]
 rw[hb,ho] at hp;obtain⟨h0,h1,h2,h3,h4⟩:=hp;refine⟨?_,h0⟩;cases n;simp_all
theorem Z3{α:Type}{p:List α→Prop}(h0:p [])(h1:∀l a,p l→p (l++[a])):∀l,p l:=by
 intro l;have:∀(n:Nat) (l:List α),l.length=n→p l:=by
  intro n
  induction n with
  | zero=>intro l hl;rw[AbF hl];exact h0
  | succ n ih=>
   intro l hl;have a0:l≠[]:=by intro e;subst e;simp at hl
   rw[←List.dropLast_concat_getLast a0];exact h1 _ _ (ih _ (by simp[hl]))
 exact this _ l rfl
theorem Vk:∀(l:List Ag) (st:List Int),B5 0 [] l=some st→∃ts:Tr true,ts.flat 0=l∧ts.kids 0=st∧ts.Fit:=by
 refine Z3 ?_ ?_
 ·intro st h;simp only[B5,Aa3] at h;exact⟨.nil,rfl,h,trivial⟩
 ·intro l n ih st h;rw[DV] at h
  cases e:B5 0 [] l with
  | none=>rw[e] at h;cases h
  | some s0=>
   rw[e] at h;simp only[Ac6,B5,Acd] at h;obtain⟨ts,hf,hk,a8⟩:=ih s0 e
   cases e2:DN l.length s0 n with
   | none=>rw[e2] at h;cases h
   | some s1=>
    rw[e2] at h;simp only[Aa3] at h;subst h;unfold DN at e2
    split at e2
    ·rename_i hc;simp only[Aa3] at e2;obtain⟨c1,c2,c3,c4⟩:=hc;obtain⟨ts1,ks,a1,a2,a3,a4,a5,a6⟩:=ts.split n.kids.length a8 (by rw[hk];exact c2);have a0:ks.kids ts1.cnt=n.kids:=by
      rw[←c3,←hk,a2];have:(ts1.kids 0++ks.kids ts1.cnt).length - n.kids.length=(ts1.kids 0).length:=by rw[B6,a3];omega
      rw[this,AdR];rfl
     have a7:s0.take (s0.length - n.kids.length)=ts1.kids 0:=by
      rw[←hk,a2];have:(ts1.kids 0++ks.kids ts1.cnt).length - n.kids.length=(ts1.kids 0).length:=by rw[B6,a3];omega
      rw[this,List.take_left'];rfl
     have a9:l.length=ts1.cnt+ks.cnt:=by rw[←hf,Tr.flat_len,a4]
     have key:∀a:Tr false,a.Fit→a.cnt=ks.cnt+1→a.flat ts1.cnt=ks.flat ts1.cnt++[n]→∃ts:Tr true,ts.flat 0=l++[n]∧ts.kids 0=s1∧ts.Fit:=by
      intro a h1 h2 h3;refine⟨.snoc ts1 a,?_,?_,a5,h1⟩
      ·simp only[Tr.flat,Acd,h3];rw[←List.append_assoc,←a1,hf]
      ·simp only[Tr.kids,Acd];rw[←e2,a7,a9,h2];rfl
     rcases Vu c1 with ⟨b1,b2,b3⟩ | b1 | ⟨b1,b2⟩ | ⟨b1,b2,b3⟩
     ·have aa:ks.kids ts1.cnt=[]:=by rw[a0,b3]
      rcases ks.snoc_form with rfl | ⟨rs,a,rfl⟩
      ·exact key (.leaf n) ⟨b1,b2,b3,c4⟩ rfl rfl
      ·simp[Tr.kids] at aa
     ·obtain⟨d1,d2⟩:=UR c4 b1;refine key (.call n.text ks) ⟨d2,a6⟩ rfl ?_;simp only[Tr.flat,a0];rw[←d1]
     ·rcases ks.snoc_form with rfl | ⟨rs,a,rfl⟩
      ·simp[Tr.kids] at a3;omega
      ·rcases rs.snoc_form with rfl | ⟨rs',a',rfl⟩
       ·refine key (.neg a) a6.2 (by simp[Tr.cnt]) ?_;have hn:=Oh c4 AdV;rw[←a0,b1] at hn;simp only[Tr.flat,Tr.kids,Tr.cnt,AbR,Ac9] at hn ⊢;rw[hn]
       ·simp[Tr.kids] at a3;omega
     ·rcases ks.snoc_form with rfl | ⟨rs,b,rfl⟩
      ·simp[Tr.kids] at a3;omega
      ·rcases rs.snoc_form with rfl | ⟨rs',a,rfl⟩
       ·simp[Tr.kids] at a3;omega
       ·rcases rs'.snoc_form with rfl | ⟨rs'',a',rfl⟩
        ·refine key (.two n.kind a b) ⟨b1,b2,a6.1.2,a6.2⟩ (by simp[Tr.cnt]) ?_;have hn:=Oh c4 AdV;rw[←a0] at hn;simp only[Tr.flat,Tr.kids,Tr.cnt,AbR,Acd,Ac9,Aco] at hn ⊢;rw[←hn]
        ·simp[Tr.kids] at a3;omega
    ·cases e2
theorem Kx{l:List Ag}(h:Cw l=true):∃t:Tr false,t.flat 0=l∧t.Fit:=by
 unfold Cw at h
 split at h
 ·rename_i st e;obtain⟨ts,h1,h2,h3⟩:=Vk l st e;have h:=of_decide_eq_true h;rcases ts.snoc_form with rfl | ⟨rs,a,rfl⟩
  ·rw[←h2] at h;simp[Tr.kids] at h
  ·rcases rs.snoc_form with rfl | ⟨rs',a',rfl⟩
   ·exact⟨a,by simpa[Tr.flat,Tr.cnt] using h1,h3.2⟩
   ·rw[←h2] at h;simp[Tr.kids] at h
 ·cases h
def Eu(s:List UInt8):List UInt8:=34::(s.flatMap (λc=>if c=34 then[34,34] else[c])++[34])
def BT(t:Ap):List UInt8:=if t.kind=1 then Lib.itoa t.num else if t.kind=2 then Eu t.text else if t.kind=4 then Ce t.ref else if t.kind=6 then Jk else t.text
def nA(t:Ap):Ap:={t with at_:=0}
def QB:Ap:=⟨0,[],0,Bh,0⟩
def sg(s:List UInt8):Ap:=⟨5,s,0,Bh,0⟩
theorem Do(s:List UInt8):BT (sg s)=s:=rfl
theorem Jc(t:Ap):BT (nA t)=BT t:=rfl
inductive FC:Ap→Prop
 | num {z:Int}:0≤z→z≤9223372036854775807→FC ⟨1,[],z,Bh,0⟩
 | text {s:List UInt8}:NW s=true→FC ⟨2,s,0,Bh,0⟩
 | word {s:List UInt8}:NI s=true→B0 s=false→FC ⟨3,s,0,Bh,0⟩
 | ref {r:CH}:BA r=true→FC ⟨4,[],0,r,0⟩
 | sign {s:List UInt8}:s∈Bp→FC (sg s)
 | dead:FC ⟨6,[],0,Bh,0⟩
def Na(t:Ap)(R:List UInt8):Prop:=
 (t.kind=1→AD (Ai R 0)=false)∧(t.kind=2→Ai R 0≠34)∧(t.kind=3∨t.kind=4→K0 (Ai R 0)=false)∧(t.kind=5→t.text=[60]∨t.text=[62]→Ai R 0≠61∧Ai R 0≠62)
theorem Ze{R:List UInt8}(h:Ai R 0≠34):R.head?≠some 34:=by
 cases R with
 | nil=>simp
 | cons c r=>
  simp only[List.head?_cons,ne_eq,Aa3];rintro rfl;exact h rfl
theorem Pb{p:Int→Bool}{R:List UInt8}(h:p (Ai R 0)=false):Aq p R=[]:=by
 cases R with
 | nil=>rfl
 | cons c r=>
  have:p (c.toNat:Int)=false:=h;simp[Aq,this]
theorem RP:∀(s R:List UInt8),NW s=true→R.head?≠some 34→AV (s.flatMap (λc=>if c=34 then[34,34] else[c])++34::R)=some (s,(s.flatMap (λc=>if c=34 then[34,34] else[c])).length+1)
 | [],R,_,h=>Y2 h
 | c::s,R,hp,h=>by
  have hp':NW s=true:=by
   simp only[NW,decide_eq_true_eq] at hp ⊢;intro j hj;exact hp (j+1) AeG
  have hc:¬c<32:=by
   simp only[NW,decide_eq_true_eq] at hp;have h0:32≤(c.toNat:Int):=hp 0 Aei;intro hh;have:=Adc.1 hh;simp at this;omega
  have ih:=RP s R hp' h;by_cases a0:c=34
  ·subst a0;simp only[AbX,if_true,Aco,AbR];rw[U4,ih];simp
  ·simp only[AbX,if_neg a0,Aco,AbR];rw[Yz a0 hc,ih];simp
theorem VN{s R:List UInt8}(hp:NW s=true)(h:Ai R 0≠34):Dv (Eu s++R)=some (⟨2,s,0,Bh,0⟩,(Eu s).length):=by
 have hb:Ai (Eu s++R) 0=34:=rfl;rw[Dv,hb,show AD 34=false from rfl,if_neg Aei,if_pos rfl,GS];have e:(Eu s++R).drop 1=s.flatMap (λc=>if c=34 then[34,34] else[c])++34::R:=by simp[Eu]
 rw[e,RP s R hp (Ze h)];simp[Eu]
theorem Nt{r:CH}(h:BA r=true):(∀c∈Ce r,K0 (c.toNat:Int)=true)∧G5 (Ai (Ce r) 0)=true:=by
 obtain⟨hs,c0,c1,r0,r1⟩:=EE h;obtain⟨hc,a3,_⟩:=Pw c0 c1;obtain⟨hd,a5,_,_⟩:=IF (z:=r.row+1) AdV AdV;have a0:∀b c,c∈DJ b→c=36:=λb c hm=>by cases b<;>simp[DJ] at hm;exact hm
 have wcap:∀z,Cq z=true→G5 z=true:=λz hz=>by simp[G5,hz]
 have wld:∀z,WA z=true→K0 z=true:=λz hz=>by
  simp only[WA,LN,Acn] at hz;simp only[K0,G5,Acn];rcases hz with (hz | hz) | hz
  ·exact .inl (.inl (.inl (.inl hz)))
  ·exact .inl (.inl (.inl (.inr hz)))
  ·exact .inl (.inr hz)
 refine⟨?_,?_⟩
 ·intro c hm;simp only[Ce,AaC] at hm;rcases hm with hm | ((hm | hm) | hm) | hm
  ·by_cases a1:r.sheet=[]
   ·simp[a1] at hm
   ·simp only[a1,if_false,AaC,B3] at hm;rcases hm with hm | hm
    ·obtain⟨_,_,a4⟩:=FP (hs.resolve_left a1);obtain⟨j,hj,rfl⟩:=Adj.1 hm;have:=a4 j hj;rw[Ej hj] at this;exact wld _ this
    ·subst hm;rfl
  ·rw[a0 _ c hm];rfl
  ·have:=wcap _ (hc c hm);simp[K0,this]
  ·rw[a0 _ c hm];rfl
  ·have:=hd c hm;simp[K0,this]
 ·have a2:∀x,G5 (Ai (DJ r.ac++G7 r.col++x) 0)=true:=λx=>by
   cases ha:r.ac with
   | true=>rfl
   | false=>
    have:DJ false++G7 r.col++x=G7 r.col++x:=rfl;rw[this,BP a3];obtain⟨c,hm,e⟩:=FF a3;rw[e];exact wcap _ (hc c hm)
  by_cases a1:r.sheet=[]
  ·have:=a2 (DJ r.ar++Lib.itoa (r.row+1))
   simpa[Ce,a1] using this
  ·have hn:=hs.resolve_left a1;have hl:LN (Ai r.sheet 0)=true:=by
    simp only[DM,AaG,decide_eq_true_eq] at hn;exact hn.1.2
   have:Ai (Ce r) 0=Ai r.sheet 0:=by
    simp only[Ce,a1,if_false,B8];exact BP (AbS.2 a1)
   rw[this,Aao,hl];rfl
theorem K5{z:Int}(h:G5 z=true):AD z=false∧z≠34∧z≠32∧z≠35∧z≠61∧z≠62:=by
 simp only[G5,Cq,Acn,AaG,decide_eq_true_eq] at h;refine⟨?_,by omega,by omega,by omega,by omega,by omega⟩;simp[AD];omega
theorem M8{s:List UInt8}(h:NI s=true):s≠[]∧s.length≤12∧Cq (Ai s 0)=true∧∀c∈s,K0 (c.toNat:Int)=true:=by
 simp only[NI,AaG,decide_eq_true_eq] at h;obtain⟨⟨⟨h0,h1⟩,h2⟩,h3⟩:=h;refine⟨h0,h1,h2,λc hc=>?_⟩;obtain⟨j,hj,rfl⟩:=Adj.1 hc;have:=h3 j hj;rw[Ej hj] at this;simp only[ZU,Acn] at this;simp only[K0,G5,Acn];rcases this with h | h
 ·exact .inl (.inl (.inl (.inl h)))
 ·exact .inl (.inr h)
theorem LX{z:Int}(h:Cq z=true):G5 z=true:=by simp[G5,h]
theorem Kq:∀s∈Bp,s≠[]∧AD (Ai s 0)=false∧Ai s 0≠34∧G5 (Ai s 0)=false∧Ai s 0≠35∧Ai s 0≠32∧K0 (Ai s 0)=false:=by decide
theorem Aa2{s R:List UInt8}(hs:s∈Bp)(h:s=[60]∨s=[62]→Ai R 0≠61∧Ai R 0≠62):Dv (s++R)=some (sg s,s.length):=by
 obtain⟨a0,a1,a2,a3,a4,_,_⟩:=Kq s hs;have hb:Ai (s++R) 0=Ai s 0:=EB a0 _;have hf:Bp.find? (λx=>Lib.hasPrefix (s++R) x)=some s:=by
  rcases Y8 hs with hl | hp
  ·match s,hl with
   | [c],_=>
    have hn:([c]++R).take 2∉Es:=by
     cases R with
     | nil=>simp[Es]
     | cons d r=>
      simp only[Aco,AbR,List.take,Es,AaH,Ac7,and_true,AbL,or_false];rintro(⟨rfl,rfl⟩ | ⟨rfl,rfl⟩ | ⟨rfl,rfl⟩)
      ·exact(h (.inl rfl)).2 rfl
      ·exact(h (.inl rfl)).1 rfl
      ·exact(h (.inr rfl)).1 rfl
    rw[RR Aei hn,hb];have:∀s∈Bp,s.length=1→sgB (Ai s 0)=true:=AdZ
    rw[this [c] hs rfl];rfl
  ·have h2:s.length=2:=by
    have:∀p∈Es,p.length=2:=AdZ
    exact this _ hp
   have ht:(s++R).take 2=s:=by rw[←h2,AdS]
   rw[Wr (by rw[ht];exact hp),ht]
 rw[Dv,hb,a1,if_neg Aei,if_neg a2,a3,if_neg Aei,HM,S9 (by rw[hb];exact a4),if_neg Aei,hf];rfl
theorem Aa1{t:Ap}(h:FC t){R:List UInt8}(hn:Na t R):Dv (BT t++R)=some (t,(BT t).length):=by
 cases h with
 | @num z h0 h1=>
  show Dv (Lib.itoa z++R)=some (_,(Lib.itoa z).length);have e:((z.toNat:Nat):Int)=z:=AdV
  rw[GC h0,Zt (u:=z.toNat) AdV (.inr (hn.1 rfl)),e]
 | text hp=>exact VN hp (hn.2.1 rfl)
 | @word s hf ho=>
  obtain⟨f0,f1,f2,f3⟩:=M8 hf;obtain⟨b0,b1,_⟩:=K5 (LX f2);have hs:Aq K0 (s++R)=s:=by rw[Gl K0 s R f3,Pb (hn.2.2.1 (.inl rfl)),AbG]
  show Dv (s++R)=some (_,s.length)
  rw[Dv,EB f0,b0,if_neg Aei,if_neg b1,LX f2,if_pos rfl,I1,hs,ho,if_neg Aei,hf,if_pos rfl]
 | @ref r hm=>
  obtain⟨g0,g1⟩:=Nt hm;obtain⟨a0,a1⟩:=We hm;obtain⟨b0,b1,_⟩:=K5 g1;have hs:Aq K0 (Ce r++R)=Ce r:=by rw[Gl K0 _ R g0,Pb (hn.2.2.1 (.inr rfl)),AbG]
  show Dv (Ce r++R)=some (_,(Ce r).length)
  rw[Dv,EB (NA hm),b0,if_neg Aei,if_neg b1,g1,if_pos rfl,I1,hs,a0,if_pos rfl,a1]
 | sign hs=>exact Aa2 hs (hn.2.2.2 rfl)
 | dead=>rfl
theorem KS{t:Ap}(h:FC t):BT t≠[]∧Ai (BT t) 0≠32:=by
 cases h with
 | @num z h0 h1=>
  show Lib.itoa z≠[]∧Ai (Lib.itoa z) 0≠32;rw[GC h0]
  exact⟨(M0 _).2.1,(M0 _).2.2⟩
 | text hp=>exact⟨by simp[BT,Eu],by show(34:Int)≠32;decide⟩
 | word hf ho=>
  obtain⟨f0,f1,f2,f3⟩:=M8 hf
  exact⟨f0,(K5 (LX f2)).2.2.1⟩
 | ref hm=>exact⟨NA hm,(K5 (Nt hm).2).2.2.1⟩
 | sign hs=>
  obtain⟨a0,a1,a2,a3,a4,a5,_⟩:=Kq _ hs
  exact⟨a0,a5⟩
 | dead=>exact⟨by simp[BT,Jk],by decide⟩
def Pn:List Ap→Prop
 | []=>True
 | t::r=>Na t (r.flatMap BT)∧Pn r
theorem QY:∀(ts:List Ap) (a:Nat),(∀t∈ts,FC t)→Pn ts→∃T,Gv (ts.flatMap BT) a=some T∧T.map nA=ts++[QB]
 | [],a,_,_=>⟨_,GG rfl,rfl⟩
 | t::r,a,hc,hl=>by
  have ht:=hc t Aei;obtain⟨T,h1,h2⟩:=QY r (a+(BT t).length) (λx hx=>hc x Afi) hl.2;obtain⟨n0,n1⟩:=KS ht;rw[AbX,V7 n0 n1 (Aa1 ht hl.1),h1];refine⟨_,rfl,?_⟩;simp only[Acb,h2,Aco,Ac7,and_true];cases ht<;>rfl
theorem Xf:∀(n:Nat) (l:List UInt8),l.length≤n→(∀c∈l,AD (c.toNat:Int)=true)→l≠[]→(Ai l 0≠48∨l.length=1)→(Lib.itoa (Cv 0 l)).length≤l.length
 | n,l,hn,hd,hne,h0=>by
  have hb:=IQ l (λj hj=>by
   have:=hd _ (Acm hj)
   simpa[Ej hj] using this)
  rw[GC hb.1];obtain⟨r,c,rfl⟩:∃r c,l=r++[c]:=⟨l.dropLast,l.getLast hne,(Adb hne).symm⟩;have hc:=hd c Aei;simp only[AD,AaG,decide_eq_true_eq] at hc
  cases r with
  | nil=>
   have e:Cv 0 ([]++[c])=(c.toNat:Int) - 48:=by
    rw[IP];have:Cv 0 []=0:=rfl;omega
   rw[e,CK AdV]
   simp
  | cons d r=>
   have a0:∀x∈d::r,AD (x.toNat:Int)=true:=λx hx=>hd x (AbV _ hx);have h1:Ai (d::r) 0≠48:=by
    rcases h0 with h0 | h0
    ·exact h0
    ·simp at h0
   match n with
   | 0=>simp at hn
   | n+1=>
    have ih:=Xf n (d::r) (by simp at hn ⊢;omega) a0 Aei (.inl h1);have a1:=IQ (d::r) (λj hj=>by
     have:=a0 _ (Acm hj)
     simpa[Ej hj] using this)
    rw[GC a1.1] at ih;have a2:∀x∈d::r,48≤x.toNat:=λx hx=>by
     have:=a0 x hx;simp only[AD,AaG,decide_eq_true_eq] at this;omega
    have a3:Cv 0 (d::r)≠0:=λhz=>by
     obtain⟨_,h2⟩:=HI (d::r) 0 AdV a2 hz;have:=h2 d Aei;exact h1 (by show(d.toNat:Int)=48;omega)
    have hx:=IP 0 (d::r) c;have e1:10≤(Cv 0 (d::r++[c])).toNat:=AdV
    have e2:(Cv 0 (d::r++[c])).toNat / 10=(Cv 0 (d::r)).toNat:=AdV
    rw[Em e1,e2];simp only[B6,AbO];omega
theorem Py:∀(n:Nat) (l:List UInt8) (x:List UInt8×Nat),l.length≤n→AV l=some x→(x.1.flatMap (λc=>if c=(34:UInt8) then[34,34] else[c])).length+1≤x.2
 | n,[],x,hn,h=>by simp[AV] at h
 | 0,c::l,x,hn,h=>by simp at hn
 | n+1,c::l,x,hn,h=>by
  simp only[AaF] at hn;by_cases h1:c=34
  ·subst h1;by_cases hq:l.head?=some 34
   ·cases l with
    | nil=>cases hq
    | cons d r=>
     simp only[List.head?_cons,Aa3] at hq;subst hq;rw[U4] at h
     cases e:AV r with
     | none=>rw[e] at h;cases h
     | some y=>
      rw[e] at h;simp only[AbM,Aa3] at h;have:=Py n r y (by simp at hn;omega) e;subst h;simp only[AbX,if_true,B6,AaF,Abz];omega
   ·rw[Y2 hq] at h;simp only[Aa3] at h;subst h;simp
  ·by_cases h2:c<32
   ·rw[Wl h1 h2] at h;cases h
   ·rw[Yz h1 h2] at h
    cases e:AV l with
    | none=>rw[e] at h;cases h
    | some y=>
     rw[e] at h;simp only[AbM,Aa3] at h;have:=Py n l y AdV e;subst h;simp only[AbX,if_neg h1,B6,AaF,Abz];omega
theorem XT{l:List UInt8}{t:Ap}{k:Nat}(h:Dv l=some (t,k)):FC t∧(BT t).length≤k:=by
 unfold Dv at h
 split at h
 ·rename_i h0;have a0:Aq AD l≠[]:=by
   have:=(Kv (p:=AD) (l:=l) (by
    cases l with
    | nil=>cases h0
    | cons a b=>simp) h0).1
   exact AbS.1 this
  rw[PI a0] at h
  split at h
  ·rename_i hc;simp only[Aa3,AbK] at h;obtain⟨rfl,rfl⟩:=h;have hb:=IQ (Aq AD l) (λj hj=>by
    have hh:=Iw AD l _ (Acm hj)
    simpa[Ej hj] using hh)
   refine⟨.num hb.1 hc.1,?_⟩;exact Xf _ _ (Abv _) (Iw AD l) a0 hc.2
  ·cases h
 ·split at h
  ·unfold GS at h
   cases e:AV (l.drop 1) with
   | none=>rw[e] at h;cases h
   | some x=>
    rw[e] at h;simp only[AbM,Aa3,AbK] at h;obtain⟨rfl,rfl⟩:=h;have h1:=Mh _ e;have h2:=Py _ _ x (Abv _) e;refine⟨.text h1.1,?_⟩;show(Eu x.1).length≤_;simp only[Eu,AaF,B6,Abz];omega
  ·split at h
   ·unfold I1 at h;simp only at h
    split at h
    ·rename_i hr;simp only[Aa3,AbK] at h;obtain⟨rfl,rfl⟩:=h;obtain⟨h1,h2⟩:=Z1 hr;refine⟨.ref h1,?_⟩;show(Ce _).length≤_;rw[h2];exact Abv _
    ·rename_i hr
     split at h
     ·rename_i hf;simp only[Aa3,AbK] at h;obtain⟨rfl,rfl⟩:=h;exact⟨.word hf Afc,Abv _⟩
     ·cases h
   ·unfold HM at h
    split at h
    ·simp only[Aa3,AbK] at h;obtain⟨rfl,rfl⟩:=h;exact⟨.dead,Abv _⟩
    ·cases e:Bp.find? λs=>Lib.hasPrefix l s with
     | none=>rw[e] at h;cases h
     | some x=>
      rw[e] at h;simp only[AbM,Aa3,AbK] at h;obtain⟨rfl,rfl⟩:=h;exact⟨.sign (Ado e),Abv _⟩
theorem QV:∀(n:Nat) (l:List UInt8) (a:Nat) {out:List Ap},l.length≤n→Gv l a=some out→(∀t∈out,nA t=QB∨FC (nA t))∧(out.flatMap BT).length≤l.length
 | n,l,a,out,hn,h=>by
  cases e:l.drop (Aq JG l).length with
  | nil=>
   rw[GG e] at h;simp only[Aa3] at h;subst h;refine⟨λt ht=>?_,by simp[BT]⟩;rw[B3.1 ht]
   exact .inl rfl
  | cons c r=>
   have hl':=congrArg List.length e;simp at hl'
   cases ho:Dv (c::r) with
   | none=>rw[Ie e Aei ho] at h;cases h
   | some x=>
    obtain⟨t,k⟩:=x;have hk:=GL Aei ho;have hk2:=Ur ho;have hok:=XT ho;rw[IG e Aei ho hk] at h
    cases hr:Gv ((c::r).drop k) (a+(Aq JG l).length+k) with
    | none=>rw[hr] at h;cases h
    | some y=>
     rw[hr] at h;simp only[AbM,Aa3] at h;subst h
     match n with
     | 0=>omega
     | n+1=>
      have hd:((c::r).drop k).length=r.length+1 - k:=Aei
      have ih:=QV n ((c::r).drop k) _ Afj hr;rw[hd] at ih;have a0:k≤r.length+1:=hk2;refine⟨λt' ht=>?_,?_⟩
      ·rcases AaH.1 ht with rfl | ht
       ·refine .inr ?_;have:nA {t with at_:=((a+(Aq JG l).length:Nat):Int)}=t:=by
         cases hok.1<;>rfl
        rw[this];exact hok.1
       ·exact ih.1 t' ht
      ·rw[AbX,B6];have:BT {t with at_:=((a+(Aq JG l).length:Nat):Int)}=BT t:=rfl;rw[this];have:=hok.2;have:=ih.2;omega
def Df(k:Int):Nat:=if k=8 then 5 else if 9≤k∧k≤14 then 1 else if k=15 then 2 else if k=16∨k=17 then 3 else if k=18∨k=19 then 4 else 6
def Tr.rank:{b:Bool}→Tr b→Nat
 | _,.neg _=>5
 | _,.two k _ _=>Df k
 | _,_=>6
def FX(k:Int):List UInt8:=Ki.getD (k - 9).toNat []
def C2(n:Ag):List Ap:=
 if n.kind=1 then[⟨1,[],n.num,Bh,0⟩]
 else if n.kind=2 then[⟨2,n.text,0,Bh,0⟩]
 else if n.kind=3 then[⟨3,if n.num=1 then Ee else Dt,0,Bh,0⟩]
 else if n.kind=4 then[⟨6,[],0,Bh,0⟩]
 else if n.kind=5 then[⟨4,[],0,n.ref,0⟩]
 else[⟨4,[],0,n.ref,0⟩,sg [58],⟨4,[],0,n.to,0⟩]
def brk(b:Bool)(l:List Ap):List Ap:=if b then sg [40]::(l++[sg [41]]) else l
def Tr.toks:{b:Bool}→Tr b→List Ap
 | _,.leaf n=>C2 n
 | _,.neg a=>sg [45]::brk (decide (a.rank<5)) a.toks
 | _,.two k a b=>brk (decide (a.rank<Df k)) a.toks++sg (FX k)::brk (decide (b.rank<Df k+1)) b.toks
 | _,.call x .nil=>[⟨3,x,0,Bh,0⟩,sg [40],sg [41]]
 | _,.call x (.snoc rs a)=>⟨3,x,0,Bh,0⟩::sg [40]::(rs.toks++(a.toks++[sg [41]]))
 | _,.nil=>[]
 | _,.snoc ks a=>ks.toks++(a.toks++[sg [44]])
def Tr.text{b:Bool}(t:Tr b):List UInt8:=t.toks.flatMap BT
def Tr.opt(n:Nat)(t:Tr false):List Ap:=brk (decide (t.rank<n)) t.toks
def Tr.Num{b:Bool}(t:Tr b):Prop:=∀k∈t.toks,k.num≤9223372036854775807
theorem Wo:∀o,o<11→Ki.getD o []∈Bp:=by decide
theorem Ja{k:Int}(h0:9≤k)(h1:k≤19):FX k∈Bp:=Wo _ AdV
theorem Fw{b:Bool}{l:List Ap}{t:Ap}(h:t∈brk b l):t∈l∨t=sg [40]∨t=sg [41]:=by
 unfold brk at h
 split at h
 ·simp only[AaH,AaC,AbL,or_false] at h;rcases h with h | h | h
  ·exact .inr (.inl h)
  ·exact .inl h
  ·exact .inr (.inr h)
 ·exact .inl h
theorem Cm{b:Bool}{l:List Ap}{t:Ap}(h:t∈l):t∈brk b l:=by
 unfold brk
 split
 ·simp[h]
 ·exact h
theorem EY{n:Ag}(h:AH n=true):IR n=true:=by
 simp only[AH,AaG] at h;exact h.1
theorem X8{n:Ag}(h0:1≤n.kind)(h1:n.kind≤6)(hp:AH n=true)(hn:∀k∈C2 n,k.num≤9223372036854775807):∀t∈C2 n,FC t:=by
 have ho:=EY hp;intro t ht;have a0:FC (sg [58]):=.sign AdZ;have:n.kind=1∨n.kind=2∨n.kind=3∨n.kind=4∨n.kind=5∨n.kind=6:=AdV
 rcases this with h | h | h | h | h | h<;>simp only[C2,IR,h,if_true,if_false,Int.reduceEq,AaH,AbL,or_false,AaG,decide_eq_true_eq] at ht ho hn
 ·subst ht;exact .num ho (hn _ rfl)
 ·subst ht;exact .text ho
 ·subst ht
  split
  ·exact .word AdZ Aev
  ·exact .word AdZ Aev
 ·subst ht;exact .dead
 ·subst ht;exact .ref ho
 ·rcases ht with rfl | rfl | rfl
  ·exact .ref ho.1
  ·exact a0
  ·exact .ref ho.2.1
theorem Kh{x:List UInt8}(h:CV x=true):FC ⟨3,x,0,Bh,0⟩:=by
 simp only[CV,AaG,Adh] at h;exact .word h.1.1.1 h.1.1.2
theorem Tr.can:∀{b:Bool} (t:Tr b),t.Fit→t.Num→∀k∈t.toks,FC k
 | _,.leaf n,hf,hn,k,hk=>X8 hf.1 hf.2.1 hf.2.2.2 hn k hk
 | _,.neg a,hf,hn,k,hk=>by
  have ha:=can a hf (λu hu=>hn u Aez);simp only[Tr.toks,AaH] at hk;rcases hk with rfl | hk
  ·exact .sign AdZ
  ·rcases Fw hk with hk | rfl | rfl
   ·exact ha k hk
   ·exact .sign AdZ
   ·exact .sign AdZ
 | _,.two o a b,hf,hn,k,hk=>by
  have ha:=can a hf.2.2.1 (λu hu=>hn u Aes);have hb:=can b hf.2.2.2 (λu hu=>hn u Aer);simp only[Tr.toks,AaC,AaH] at hk;rcases hk with hk | rfl | hk
  ·rcases Fw hk with hk | rfl | rfl
   ·exact ha k hk
   ·exact .sign AdZ
   ·exact .sign AdZ
  ·exact .sign (Ja hf.1 hf.2.1)
  ·rcases Fw hk with hk | rfl | rfl
   ·exact hb k hk
   ·exact .sign AdZ
   ·exact .sign AdZ
 | _,.call x .nil,hf,hn,k,hk=>by
  simp only[Tr.toks,AaH,AbL,or_false] at hk;rcases hk with rfl | rfl | rfl
  ·exact Kh hf.1
  ·exact .sign AdZ
  ·exact .sign AdZ
 | _,.call x (.snoc rs a),hf,hn,k,hk=>by
  have hr:=can rs hf.2.1 (λu hu=>hn u Aej);have ha:=can a hf.2.2 (λu hu=>hn u Aej);simp only[Tr.toks,AaH,AaC,AbL,or_false] at hk;rcases hk with rfl | rfl | hk | hk | rfl
  ·exact Kh hf.1
  ·exact .sign AdZ
  ·exact hr k hk
  ·exact ha k hk
  ·exact .sign AdZ
 | _,.nil,_,_,k,hk=>by cases hk
 | _,.snoc rs a,hf,hn,k,hk=>by
  have hr:=can rs hf.1 (λu hu=>hn u Aej);have ha:=can a hf.2 (λu hu=>hn u Aej);simp only[Tr.toks,AaC,AaH,AbL,or_false] at hk;rcases hk with hk | hk | rfl
  ·exact hr k hk
  ·exact ha k hk
  ·exact .sign AdZ
def C7(l:List Ap):Prop:=l.flatMap BT≠[]∧Ai (l.flatMap BT) 0≠61∧Ai (l.flatMap BT) 0≠62
theorem C7.app{l:List Ap}(h:C7 l)(m:List Ap):C7 (l++m):=by
 unfold C7 at h ⊢;rw[Acl,EB h.1];exact⟨by simp[h.1],h.2⟩
theorem C7.cons{t:Ap}(h:BT t≠[])(h1:Ai (BT t) 0≠61)(h2:Ai (BT t) 0≠62)(m:List Ap):C7 (t::m):=by
 unfold C7;rw[AbX,EB h];exact⟨by simp[h],h1,h2⟩
theorem C7.brk{l:List Ap}(h:C7 l)(b:Bool):C7 (Go.Proofs.YtcjjcnecopnpcaaGreatDoor.brk b l):=by
 unfold Go.Proofs.YtcjjcnecopnpcaaGreatDoor.brk
 split
 ·exact C7.cons (by simp[Do]) (by rw[Do];decide) (by rw[Do];decide) _
 ·exact h
theorem Mx{t:Ap}(h:FC t)(hk:t.kind≠5)(m:List Ap):C7 (t::m):=by
 have h0:=(KS h).1
 cases h with
 | @num z a0 h1=>
  refine C7.cons h0 ?_ ?_ m<;>
  ·show Ai (Lib.itoa z) 0≠_;rw[GC a0];have:=(M0 z.toNat).1;simp only[AD,AaG,decide_eq_true_eq] at this
   omega
 | text hp=>exact C7.cons h0 (by show(34:Int)≠61;decide) (by show(34:Int)≠62;decide) m
 | word hf ho=>
  have:=K5 (LX (M8 hf).2.2.1)
  exact C7.cons h0 this.2.2.2.2.1 this.2.2.2.2.2 m
 | ref hm=>
  have:=K5 (Nt hm).2
  exact C7.cons h0 this.2.2.2.2.1 this.2.2.2.2.2 m
 | sign hs=>exact absurd rfl hk
 | dead=>exact C7.cons h0 AdZ AdZ m
theorem GD{n:Ag}(h0:1≤n.kind)(h1:n.kind≤6):∃t m,C2 n=t::m∧t.kind≠5∧(m=[]∨∃u,m=[sg [58],u]∧u.kind=4∧t.kind=4):=by
 have:n.kind=1∨n.kind=2∨n.kind=3∨n.kind=4∨n.kind=5∨n.kind=6:=AdV
 rcases this with h | h | h | h | h | h<;>simp only[C2,h,if_true,if_false,Int.reduceEq]
 ·exact⟨_,_,rfl,by simp,.inl rfl⟩
 ·exact⟨_,_,rfl,by simp,.inl rfl⟩
 ·exact⟨_,_,rfl,by simp,.inl rfl⟩
 ·exact⟨_,_,rfl,by simp,.inl rfl⟩
 ·exact⟨_,_,rfl,by simp,.inl rfl⟩
 ·exact⟨_,_,rfl,by simp,.inr ⟨_,rfl,rfl,rfl⟩⟩
theorem Tr.head:∀(t:Tr false),t.Fit→t.Num→C7 t.toks
 | .leaf n,hf,hn=>by
  obtain⟨t,m,e,hk,_⟩:=GD hf.1 hf.2.1;have hc:=(Tr.leaf n).can hf hn t (by show t∈C2 n;rw[e];simp);show C7 (C2 n);rw[e]
  exact Mx hc hk m
 | .neg a,_,_=>C7.cons (by simp[Do]) (by rw[Do];decide) (by rw[Do];decide) _
 | .two o a b,hf,hn=>by
  have ha:=head a hf.2.2.1 (λu hu=>hn u Aes)
  exact(ha.brk _).app _
 | .call x .nil,hf,_=>Mx (Kh hf.1) Aei _
 | .call x (.snoc rs a),hf,_=>Mx (Kh hf.1) Aei _
def UH(R:List UInt8):Prop:=AD (Ai R 0)=false∧Ai R 0≠34∧K0 (Ai R 0)=false
theorem H6{s:List UInt8}(h:s∈Bp)(B:List Ap):UH ((sg s::B).flatMap BT):=by
 obtain⟨a0,a1,a2,a3,a4,a5,a6⟩:=Kq s h;rw[AbX,Do];unfold UH;rw[EB a0];exact⟨a1,a2,a6⟩
theorem GQ{t:Ap}(hk:t.kind≠5){R:List UInt8}(h:UH R):Na t R:=⟨λ_=>h.1,λ_=>h.2.1,λ_=>h.2.2,λe=>absurd e hk⟩
theorem F1{s R:List UInt8}(h1:s≠[60])(h2:s≠[62]):Na (sg s) R:=⟨by simp[sg],by simp[sg],by simp[sg],λ_ e=>by rcases e with e | e<;>contradiction⟩
theorem Vp{s:List UInt8}{B:List Ap}(h:C7 B):Na (sg s) (B.flatMap BT):=⟨by simp[sg],by simp[sg],by simp[sg],λ_ _=>h.2⟩
theorem MM{l:List Ap}(hl:∀B:List Ap,UH (B.flatMap BT)→Pn B→Pn (l++B))(b:Bool):∀B:List Ap,UH (B.flatMap BT)→Pn B→Pn (brk b l++B):=by
 intro B hs hB;unfold brk
 split
 ·simp only[Aco,B8,AbR];exact⟨F1 AdZ AdZ,hl _ (H6 AdZ B) ⟨F1 AdZ AdZ,hB⟩⟩
 ·exact hl B hs hB
theorem Tr.link:∀{b:Bool} (t:Tr b),t.Fit→t.Num→∀B:List Ap,(b=true∨UH (B.flatMap BT))→Pn B→Pn (t.toks++B)
 | _,.leaf n,hf,hn,B,hs,hB=>by
  have hs:=hs.resolve_left Aei;obtain⟨t,m,e,hk,hm⟩:=GD hf.1 hf.2.1;show Pn (C2 n++B);rw[e];rcases hm with rfl | ⟨u,rfl,hu,_⟩
  ·exact⟨GQ hk hs,hB⟩
  ·exact⟨GQ hk (H6 AdZ _),F1 AdZ AdZ,GQ AdV hs,hB⟩
 | _,.neg a,hf,hn,B,hs,hB=>by
  have hs:=hs.resolve_left Aei;have ha:=link a hf (λu hu=>hn u Aez)
  exact⟨F1 AdZ AdZ,MM (λB h1 h2=>ha B (.inr h1) h2) _ B hs hB⟩
 | _,.two o a b,hf,hn,B,hs,hB=>by
  have hs:=hs.resolve_left Aei;have hna:a.Num:=λu hu=>hn u Aes;have hnb:b.Num:=λu hu=>hn u Aer;have ha:=link a hf.2.2.1 hna;have hb:=link b hf.2.2.2 hnb;have hm:=Ja hf.1 hf.2.1;simp only[Tr.toks,B8,Aco]
  exact MM (λB h1 h2=>ha B (.inr h1) h2) _ _ (H6 hm _) ⟨Vp (((b.head hf.2.2.2 hnb).brk _).app _),MM (λB h1 h2=>hb B (.inr h1) h2) _ B hs hB⟩
 | _,.call x .nil,hf,hn,B,hs,hB=>⟨GQ Aei (H6 AdZ _),F1 AdZ AdZ,F1 AdZ AdZ,hB⟩
 | _,.call x (.snoc rs a),hf,hn,B,hs,hB=>by
  have hr:=link rs hf.2.1 (λu hu=>hn u Aej);have ha:=link a hf.2.2 (λu hu=>hn u Aej);simp only[Tr.toks,B8,Aco,AbR]
  exact⟨GQ Aei (H6 AdZ _),F1 AdZ AdZ,hr _ (.inl rfl) (ha _ (.inr (H6 AdZ _)) ⟨F1 AdZ AdZ,hB⟩)⟩
 | _,.nil,_,_,B,_,hB=>hB
 | _,.snoc rs a,hf,hn,B,_,hB=>by
  have hr:=link rs hf.1 (λu hu=>hn u Aej);have ha:=link a hf.2 (λu hu=>hn u Aej);simp only[Tr.toks,B8,Aco,AbR];exact hr _ (.inl rfl) (ha _ (.inr (H6 AdZ _)) ⟨F1 AdZ AdZ,hB⟩)
theorem Tr.lex(t:Tr false)(hf:t.Fit)(hn:t.Num):∃T,Jw t.text=some T∧T.map nA=t.toks++[QB]:=by
 have:=t.link hf hn [] (.inr ⟨rfl,by decide,rfl⟩) trivial;rw[AbG] at this;exact QY _ 0 (t.can hf hn) this
def IW(least r need:Nat):Nat:=if r<least then need+1 else need
def Tr.need:{b:Bool}→Tr b→Nat
 | _,.leaf _=>0
 | _,.neg a=>IW 5 a.rank a.need+1
 | _,.two k a b=>max (IW (Df k) a.rank a.need) (IW (Df k+1) b.rank b.need)
 | _,.call _ ks=>ks.need+1
 | _,.nil=>0
 | _,.snoc ks a=>max ks.need a.need
def Rg(n:Nat):Gf:=if n<4 then .lev n else if n=4 then .unary else .prim
theorem TN{n:Nat}(h:n<4):below n=Rg (n+1):=by
 unfold below Rg;by_cases h3:n<3
 ·rw[if_pos h3,if_pos AdV]
 ·rw[if_neg h3,if_neg AdV,if_pos AdV]
def Left(T:List Ap)(s:Cn):List Ap:=(T.drop s.at_).map nA
theorem D5{T:List Ap}{s:Cn}{u:Ap}{R:List Ap}(h:Left T s=u::R):(Ad T s).kind=u.kind∧(Ad T s).text=u.text∧(Ad T s).num=u.num∧(Ad T s).ref=u.ref:=by
 unfold Left at h;have:((T.drop s.at_).map nA)[0]?=some u:=by rw[h];rfl
 rw[AbH,AcW,Ac9] at this
 cases e:T[s.at_]? with
 | none=>rw[e] at this;cases this
 | some t=>
  rw[e] at this;simp only[AbM,Aa3] at this;have et:Ad T s=t:=by simp[Ad,e]
  rw[et,←this];exact⟨rfl,rfl,rfl,rfl⟩
theorem Bu{T:List Ap}{s s':Cn}{w R:List Ap}(h:Left T s=w++R)(hs:s'.at_=s.at_+w.length):Left T s'=R:=by
 unfold Left at h ⊢;rw[hs,←List.drop_drop,Aeb,h,Ad6]
theorem CL{T:List Ap}{s:Cn}{u:Ap}{R:List Ap}(h:Left T s=u::R)(x:List UInt8):Cx T s x=(decide (u.kind=5)&&decide (u.text=x)):=by
 obtain⟨h1,h2,_⟩:=D5 h;rw[Cx,h1,h2]
def Abh(n:Nat)(u:Ap):Prop:=u.kind=5→u.text≠[58]∧∀m,n≤m→m<4→(Cd m).findIdx? (λx=>decide (x=u.text))=none
def YM(n:Nat)(R:List Ap):Prop:=∃u B,R=u::B∧Abh n u
theorem YM.mono{n m:Nat}{R:List Ap}(h:YM n R)(hm:n≤m):YM m R:=by
 obtain⟨u,B,e,hs⟩:=h;exact⟨u,B,e,λh5=>⟨(hs h5).1,λk hk=>(hs h5).2 k AdV⟩⟩
theorem YZ(n:Nat):YM n [QB]:=⟨_,_,rfl,λh=>by cases h⟩
theorem Xq(n:Nat)(B:List Ap):YM n (sg [41]::B):=⟨_,_,rfl,λ_=>⟨by decide,λm _ h4=>by
 have:∀m,m<4→(Cd m).findIdx? (λx=>decide (x=[41]))=none:=AdZ
 exact this m h4⟩⟩
theorem Aau(n:Nat)(B:List Ap):YM n (sg [44]::B):=⟨_,_,rfl,λ_=>⟨by decide,λm _ h4=>by
 have:∀m,m<4→(Cd m).findIdx? (λx=>decide (x=[44]))=none:=AdZ
 exact this m h4⟩⟩
theorem Zw{T:List Ap}{s:Cn}{R:List Ap}{n m:Nat}(h:Left T s=R)(hf:YM n R)(hn:n≤m)(h4:m<4):Jf T s m=none:=by
 obtain⟨u,B,rfl,hs⟩:=hf;obtain⟨h1,h2,_⟩:=D5 h;unfold Jf
 split
 ·rename_i h5;rw[h2];exact(hs (by rw[←h1];exact h5)).2 m hn h4
 ·rfl
theorem Aa4:∀o,o<11→Ki.getD o []≠[58]∧∃n,n<4∧Df (9+(o:Int))=n+1∧(∃i,(Cd n).findIdx? (λx=>decide (x=Ki.getD o []))=some i∧(AP n).getD i 0=9+(o:Int))∧∀m,m<4→n+1≤m→(Cd m).findIdx? (λx=>decide (x=Ki.getD o []))=none:=by
 intro o ho;have:o=0∨o=1∨o=2∨o=3∨o=4∨o=5∨o=6∨o=7∨o=8∨o=9∨o=10:=AdV
 rcases this with rfl | rfl | rfl | rfl | rfl | rfl | rfl | rfl | rfl | rfl | rfl
 ·exact⟨by decide,0,by decide,rfl,⟨0,rfl,rfl⟩,by decide⟩
 ·exact⟨by decide,0,by decide,rfl,⟨1,rfl,rfl⟩,by decide⟩
 ·exact⟨by decide,0,by decide,rfl,⟨2,rfl,rfl⟩,by decide⟩
 ·exact⟨by decide,0,by decide,rfl,⟨3,rfl,rfl⟩,by decide⟩
 ·exact⟨by decide,0,by decide,rfl,⟨4,rfl,rfl⟩,by decide⟩
 ·exact⟨by decide,0,by decide,rfl,⟨5,rfl,rfl⟩,by decide⟩
 ·exact⟨by decide,1,by decide,rfl,⟨0,rfl,rfl⟩,by decide⟩
 ·exact⟨by decide,2,by decide,rfl,⟨0,rfl,rfl⟩,by decide⟩
 ·exact⟨by decide,2,by decide,rfl,⟨1,rfl,rfl⟩,by decide⟩
 ·exact⟨by decide,3,by decide,rfl,⟨0,rfl,rfl⟩,by decide⟩
 ·exact⟨by decide,3,by decide,rfl,⟨1,rfl,rfl⟩,by decide⟩
theorem Us{k:Int}(h0:9≤k)(h1:k≤19):FX k≠[58]∧∃n,n<4∧Df k=n+1∧(∃i,(Cd n).findIdx? (λx=>decide (x=FX k))=some i∧(AP n).getD i 0=k)∧∀m,m<4→n+1≤m→(Cd m).findIdx? (λx=>decide (x=FX k))=none:=by
 have:=Aa4 (k - 9).toNat AdV;rw[show 9+(((k - 9).toNat:Nat):Int)=k by omega] at this;exact this
def DX{b:Bool}(t:Tr b)(w:List Ap)(s:Cn):Cn:=⟨s.at_+w.length,s.out++t.flat s.out.length,s.deep⟩
def plc(t:Tr false)(s:Cn):Nat:=s.out.length+t.cnt - 1
def J9(d:Nat)(t:Tr false)(w:List Ap)(s:Cn):HQ:=if s.deep+d≤12 then .ok (DX t w s) (plc t s) else .err 6
def ZN(t:Tr false)(d:Nat)(w:List Ap)(n:Nat):Prop:=∀(T:List Ap) (s:Cn) (R:List Ap) (r:HQ),s.deep≤12→Left T s=w++R→YM (n+1) R→
 (if s.deep+d≤12 then PE T (.loop n (plc t s)) (DX t w s) r else r=.err 6)→PE T (.lev n) s r
def NL(t:Tr false)(d:Nat)(w:List Ap)(n:Nat):Prop:=∀(T:List Ap) (s:Cn) (R:List Ap),s.deep≤12→Left T s=w++R→YM n R→PE T (Rg n) s (J9 d t w s)
theorem ZN.m{t:Tr false}{d:Nat}{w:List Ap}{n:Nat}(h:ZN t d w n)(hn:n<4):NL t d w n:=by
 intro T s R hs hl hf;have e:Rg n=.lev n:=by rw[Rg,if_pos hn]
 rw[e];refine h T s R _ hs hl (hf.mono AdV) ?_;unfold J9
 split
 ·exact .loop_end (Zw (Bu hl rfl) hf (Abv n) hn)
 ·rfl
theorem NL.k{t:Tr false}{d:Nat}{w:List Ap}{n:Nat}(h:NL t d w (n+1))(hn:n<4):ZN t d w n:=by
 intro T s R r hs hl hf hr;have hp:=h T s R hs hl hf;rw[←TN hn] at hp;unfold J9 at hp
 split at hp
 ·rename_i hd;rw[if_pos hd] at hr;exact .lev_ok hp hr
 ·rename_i hd;rw[if_neg hd] at hr;subst hr;exact .lev_err hp
theorem NL.down{t:Tr false}{d:Nat}{w:List Ap}(h:NL t d w 5)(hw:∃u v,w=u::v∧¬(u.kind=5∧u.text=[45])):∀k n,n+k=5→NL t d w n:=by
 have hu:NL t d w 4:=by
  intro T s R hs hl hf;obtain⟨u,v,rfl,hv⟩:=hw;have hp:=h T s R hs hl (hf.mono AdV);refine .un_prim ?_ hp;rw[CL hl];by_cases h5:u.kind=5
  ·have:¬u.text=[45]:=λe=>hv ⟨h5,e⟩;simp[this]
  ·simp[h5]
 intro k
 induction k with
 | zero=>intro n hn;rw[show n=5 by omega];exact h
 | succ k ih=>
  intro n hn;by_cases h4:n=4
  ·rw[h4];exact hu
  ·exact(NL.k (ih (n+1) AdV) AdV).m AdV
theorem TQ{t:Tr false}(h:NL t t.need t.toks 0):NL t (t.need+1) (sg [40]::(t.toks++[sg [41]])) 5:=by
 intro T s R hs hl hf;have hl:Left T s=sg [40]::(t.toks++(sg [41]::R)):=by rw[hl];simp
 have hi:Cx T s [40]=true:=by rw[CL hl];rfl
 show PE T .prim s _;by_cases hd:s.deep<12
 ·have a0:Left T (A3 (Az s))=t.toks++(sg [41]::R):=Bu (w:=[sg [40]]) hl rfl;have hp:=h T (A3 (Az s)) (sg [41]::R) Ae0 a0 (Xq 0 R);unfold J9 at hp ⊢;have a1:(A3 (Az s)).deep=s.deep+1:=rfl;rw[a1] at hp;by_cases hh:s.deep+1+t.need≤12
  ·rw[if_pos hh] at hp;rw[if_pos AdV];have a2:Left T (DX t t.toks (A3 (Az s)))=sg [41]::R:=Bu a0 rfl;have a3:Cx T (DX t t.toks (A3 (Az s))) [41]=true:=by rw[CL a2];rfl
   have:=PE.pr_ok hi hd hp a3;have e:CD (Az (DX t t.toks (A3 (Az s))))=DX t (sg [40]::(t.toks++[sg [41]])) s:=by
    simp only[CD,Az,DX,A3,Cn.mk.injEq,AaF,B6,Abz];exact⟨by omega,trivial,by omega⟩
   rw[e] at this;exact this
  ·rw[if_neg hh] at hp;rw[if_neg AdV];exact .pr_err hi hd hp
 ·unfold J9;rw[if_neg AdV];exact .pr_deep hi AdV
theorem Ut{t:Tr false}(h0:NL t t.need t.toks 0)(hm:∀n,n+1≤t.rank→NL t t.need t.toks n){n:Nat}(hn:n≤5):NL t (IW (n+1) t.rank t.need) (brk (decide (t.rank<n+1)) t.toks) n:=by
 unfold IW brk;by_cases hr:t.rank<n+1
 ·rw[if_pos hr,if_pos Afc];exact(TQ h0).down ⟨_,_,rfl,by rintro⟨_,e⟩;cases e⟩ (5 - n) n AdV
 ·rw[if_neg hr,if_neg Afc];exact hm n AdV
theorem XW{t:Tr false}(h0:NL t t.need t.toks 0)(hk:∀n,n<4→n+1≤t.rank→ZN t t.need t.toks n){n:Nat}(hn:n<4):ZN t (IW (n+1) t.rank t.need) (brk (decide (t.rank<n+1)) t.toks) n:=by
 unfold IW brk;by_cases hr:t.rank<n+1
 ·rw[if_pos hr,if_pos Afc];exact((TQ h0).down ⟨_,_,rfl,by rintro⟨_,e⟩;cases e⟩ (5 - (n+1)) (n+1) AdV).k hn
 ·rw[if_neg hr,if_neg Afc];exact hk n hn AdV
theorem Yl{k:Int}(h0:9≤k)(h1:k≤19):1≤Df k∧Df k≤4:=by
 obtain⟨_,n,hn,e,_⟩:=Us h0 h1;omega
theorem Tr.rank_le:∀(t:Tr false),t.Fit→1≤t.rank∧t.rank≤6
 | .leaf _,_=>by simp[Tr.rank]
 | .neg _,_=>by simp[Tr.rank]
 | .two k _ _,h=>by have:=Yl h.1 h.2.1;simp only[Tr.rank];omega
 | .call _ _,_=>by simp[Tr.rank]
theorem Zj{n:Ag}(h0:1≤n.kind)(h1:n.kind≤6)(hk:n.kids=[])(hp:AH n=true):NL (.leaf n) 0 (C2 n) 5:=by
 intro T s R hs hl hf;show PE T .prim s _;unfold J9;rw[if_pos AdV];have ho:=EY hp;have a2:plc (.leaf n) s=s.out.length:=by simp[plc,Tr.cnt]
 rw[a2];have hb:=hp;simp only[AH,AaG,decide_eq_true_eq] at hb;have a0:∀w:List Ap,DX (.leaf n) w s=Cf ⟨s.at_+w.length,s.out,s.deep⟩ n:=λw=>by simp[DX,Cf,Tr.flat]
 rw[a0];have:n.kind=1∨n.kind=2∨n.kind=3∨n.kind=4∨n.kind=5∨n.kind=6:=AdV
 rcases this with h | h | h | h | h | h<;>simp only[C2,IR,Br,h,if_true,if_false,Int.reduceEq,AaG,decide_eq_true_eq,Acn,true_and,and_true,Aco,AbR] at hl ho hb ⊢
 ·obtain⟨t1,t2,t3,t4⟩:=D5 hl;have e:n={kind:=1,num:=(Ad T s).num}:=by cases n;simp_all
  rw[e];exact .pr_num t1
 ·obtain⟨t1,t2,t3,t4⟩:=D5 hl;have e:n={kind:=2,text:=(Ad T s).text}:=by cases n;simp_all
  rw[e];exact .pr_text t1
 ·obtain⟨t1,t2,t3,t4⟩:=D5 hl;rcases ho with ho | ho
  ·rw[if_neg AdV] at t2;have e:n={kind:=3}:=by cases n;simp_all
   rw[e];exact .pr_false t1 t2
  ·rw[if_pos ho] at t2;have e:n={kind:=3,num:=1}:=by cases n;simp_all
   rw[e];exact .pr_true t1 t2
 ·obtain⟨t1,t2,t3,t4⟩:=D5 hl;have e:n={kind:=4}:=by cases n;simp_all
  rw[e];exact .pr_dead t1
 ·obtain⟨t1,t2,t3,t4⟩:=D5 hl;have e:n={kind:=5,ref:=(Ad T s).ref}:=by cases n;simp_all
  rw[e];refine .pr_ref t1 ?_;obtain⟨u,B,rfl,hu⟩:=hf;have a1:Left T (Az s)=u::B:=Bu (w:=[_]) hl rfl;rw[CL a1];by_cases h5:u.kind=5
  ·simp[(hu h5).1]
  ·simp[h5]
 ·obtain⟨t1,t2,t3,t4⟩:=D5 hl;have a1:Left T (Az s)=sg [58]::⟨4,[],0,n.to,0⟩::R:=Bu (w:=[_]) hl rfl;have a3:Left T (Az (Az s))=⟨4,[],0,n.to,0⟩::R:=Bu (w:=[_]) a1 rfl;obtain⟨q1,q2,q3,q4⟩:=D5 a3;have e:n={kind:=6,ref:=(Ad T s).ref,to:=(Ad T (Az (Az s))).ref}:=by cases n;simp_all
  have hr:BV (Ad T s).ref (Ad T (Az (Az s))).ref=true:=by rw[t4,q4];exact ho.2.2
  have hi:Cx T (Az s) [58]=true:=by rw[CL a1];rfl
  rw[e];exact .pr_range t1 hi q1 hr
def GoR(ks:Tr true):Prop:=∀(T:List Ap) (s:Cn) (R:List Ap) (x:List UInt8) (k0:List Int) (r:HQ),s.deep≤12→Left T s=ks.toks++R→
 (if s.deep+ks.need≤12 then PE T (.args x (k0++ks.kids s.out.length)) (DX ks ks.toks s) r else r=.err 6)→PE T (.args x k0) s r
def ZO:{b:Bool}→Tr b→Prop
 | false,t=>(∀n,n+1≤t.rank→NL t t.need t.toks n)∧∀n,n<4→n+1≤t.rank→ZN t t.need t.toks n
 | true,ks=>GoR ks
theorem L4{x:List UInt8}(h:CV x=true):x≠Ee∧x≠Dt:=by
 simp only[CV,AaG,Adh,decide_eq_false_iff_not] at h;exact⟨h.1.2,h.2⟩
theorem SK{t:Tr false}(h5:NL t t.need t.toks 5)(hw:∃u v,t.toks=u::v∧¬(u.kind=5∧u.text=[45]))(hr:t.rank=6):ZO t:=by
 have hd:=h5.down hw;refine⟨λn hn=>hd (5 - n) n AdV,λn hn _=>(hd (5 - (n+1)) (n+1) AdV).k hn⟩
theorem Ud{t:Tr false}{m:Nat}(hr:t.rank=m+1)(hm4:m≤4)(h:NL t t.need t.toks m)(hk:m<4→ZN t t.need t.toks m):ZO t:=by
 have key:∀k n,n+k=m→NL t t.need t.toks n:=by
  intro k
  induction k with
  | zero=>intro n hn;rw[show n=m by omega];exact h
  | succ k ih=>intro n hn;exact(NL.k (ih (n+1) AdV) AdV).m AdV
 refine⟨λn hn=>key (m - n) n AdV,λn hn h1=>?_⟩;by_cases e:n=m
 ·subst e;exact hk hn
 ·exact(key (m - (n+1)) (n+1) AdV).k hn
def JH(l:List Ap):Prop:=∃u v,l=u::v∧¬(u.kind=5∧u.text=[41])
theorem JH.app{l:List Ap}(h:JH l)(m:List Ap):JH (l++m):=by
 obtain⟨u,v,rfl,hu⟩:=h;exact⟨u,v++m,rfl,hu⟩
theorem JH.brk{l:List Ap}(h:JH l)(b:Bool):JH (Go.Proofs.YtcjjcnecopnpcaaGreatDoor.brk b l):=by
 unfold Go.Proofs.YtcjjcnecopnpcaaGreatDoor.brk
 split
 ·exact⟨_,_,rfl,by rintro⟨_,e⟩;cases e⟩
 ·exact h
theorem Tr.first:∀{b:Bool} (t:Tr b),t.Fit→(b=true∧t.toks=[])∨JH t.toks
 | _,.leaf n,hf=>by
  obtain⟨u,m,e,hk,_⟩:=GD hf.1 hf.2.1
  exact .inr ⟨u,m,e,λh=>hk h.1⟩
 | _,.neg a,_=>.inr ⟨_,_,rfl,by rintro⟨_,e⟩;cases e⟩
 | _,.two k a b,hf=>by
  rcases first a hf.2.2.1 with h | h
  ·cases h.1
  ·exact .inr ((h.brk _).app _)
 | _,.call x .nil,_=>.inr ⟨_,_,rfl,by rintro⟨e,_⟩;cases e⟩
 | _,.call x (.snoc rs a),_=>.inr ⟨_,_,rfl,by rintro⟨e,_⟩;cases e⟩
 | _,.nil,_=>.inl ⟨rfl,rfl⟩
 | _,.snoc rs a,hf=>by
  rcases first a hf.2 with h | h
  ·cases h.1
  ·rcases first rs hf.1 with h2 | h2
   ·refine .inr ?_;simp only[Tr.toks,h2.2,AbR];exact h.app _
   ·exact .inr (h2.app _)
theorem Vi{T:List Ap}{s:Cn}{l:List Ap}(h:JH l)(hl:Left T s=l):Cx T s [41]=false:=by
 obtain⟨u,v,rfl,hu⟩:=h;rw[CL hl];by_cases h5:u.kind=5
 ·have:¬u.text=[41]:=λe=>hu ⟨h5,e⟩;simp[this]
 ·simp[h5]
theorem Tr.go:∀{b:Bool} (t:Tr b),t.Fit→ZO t
 | _,.leaf n,hf=>by
  obtain⟨u,m,e,hk,_⟩:=GD hf.1 hf.2.1
  exact SK (Zj hf.1 hf.2.1 hf.2.2.1 hf.2.2.2) ⟨u,m,e,λh=>hk h.1⟩ rfl
 | _,.neg a,hf=>by
  have ga:ZO a:=go a hf;have hr:=Tr.rank_le a hf;have hop:NL a (IW 5 a.rank a.need) (brk (decide (a.rank<5)) a.toks) 4:=Ut (ga.1 0 AdV) ga.1 (n:=4) AdV;refine Ud (m:=4) rfl (Abv _) ?_ (λh=>absurd h AdV);intro T s R hs hl hfol;have hl:Left T s=sg [45]::(brk (decide (a.rank<5)) a.toks++R):=hl;have hi:Cx T s [45]=true:=by rw[CL hl];rfl
  show PE T .unary s _;have a0:(Tr.neg a).need=IW 5 a.rank a.need+1:=rfl;by_cases hd:s.deep<12
  ·have a1:Left T (A3 (Az s))=brk (decide (a.rank<5)) a.toks++R:=Bu (w:=[_]) hl rfl;have hp:=hop T (A3 (Az s)) R Ae0 a1 hfol;unfold J9 at hp ⊢;have a6:(A3 (Az s)).deep=s.deep+1:=rfl;rw[a6] at hp;rw[a0];by_cases hh:s.deep+1+IW 5 a.rank a.need≤12
   ·rw[if_pos hh] at hp;rw[if_pos AdV];have:=PE.un_ok hi hd hp;have e:Cf (CD (DX a (brk (decide (a.rank<5)) a.toks) (A3 (Az s)))) {kind:=8,kids:=[((plc a (A3 (Az s)):Nat):Int)]}=DX (.neg a) (Tr.neg a).toks s:=by
     simp only[Cf,CD,DX,A3,Az,Tr.flat,Tr.toks,Cn.mk.injEq,AaF,B8,plc];exact⟨by omega,trivial,by omega⟩
    have e2:(DX a (brk (decide (a.rank<5)) a.toks) (A3 (Az s))).out.length=plc (.neg a) s:=by
     simp only[DX,A3,Az,plc,Tr.cnt,B6,Tr.flat_len];omega
    rw[e,e2] at this;exact this
   ·rw[if_neg hh] at hp;rw[if_neg AdV];exact .un_err hi hd hp
  ·unfold J9;rw[if_neg AdV]
   exact .un_deep hi AdV
 | _,.two k a b,hf=>by
  have ga:ZO a:=go a hf.2.2.1;have gb:ZO b:=go b hf.2.2.2;have ra:=Tr.rank_le a hf.2.2.1;have rb:=Tr.rank_le b hf.2.2.2;obtain⟨aj,n,hn,ac,⟨i,hi,ak⟩,al⟩:=Us hf.1 hf.2.1;have hA:=XW (ga.1 0 AdV) ga.2 hn;have hB:=Ut (gb.1 0 AdV) gb.1 (n:=n+1) AdV;have a0:(Tr.two k a b).need=max (IW (n+1) a.rank a.need) (IW (n+1+1) b.rank b.need):=by simp only[Tr.need,ac]
  have a2:(Tr.two k a b).toks=brk (decide (a.rank<n+1)) a.toks++sg (FX k)::brk (decide (b.rank<n+1+1)) b.toks:=by simp only[Tr.toks,ac]
  have hK:ZN (.two k a b) (Tr.two k a b).need (Tr.two k a b).toks n:=by
   intro T s R r hs hl hfol hr;rw[a2,B8,Aco] at hl;have am:YM (n+1) (sg (FX k)::(brk (decide (b.rank<n+1+1)) b.toks++R)):=⟨_,_,rfl,λ_=>⟨aj,λm h1 h2=>al m h2 h1⟩⟩;refine hA T s _ r hs hl am ?_
   split
   ·rename_i a3;have a1:Left T (DX a (brk (decide (a.rank<n+1)) a.toks) s)=sg (FX k)::(brk (decide (b.rank<n+1+1)) b.toks++R):=Bu hl rfl;obtain⟨t1,t2,_⟩:=D5 a1;have hop:Jf T (DX a (brk (decide (a.rank<n+1)) a.toks) s) n=some i:=by
     unfold Jf;rw[if_pos (show _=(5:Int) from t1),t2];exact hi
    have a4:Left T (Az (DX a (brk (decide (a.rank<n+1)) a.toks) s))=brk (decide (b.rank<n+1+1)) b.toks++R:=Bu (w:=[_]) a1 rfl;have hp:=hB T (Az (DX a (brk (decide (a.rank<n+1)) a.toks) s)) R hs a4 hfol;rw[←TN hn] at hp;unfold J9 at hp;have a6:(Az (DX a (brk (decide (a.rank<n+1)) a.toks) s)).deep=s.deep:=rfl;rw[a6] at hp;by_cases ai:s.deep+IW (n+1+1) b.rank b.need≤12
    ·rw[if_pos ai] at hp;rw[if_pos AeV] at hr;refine .loop_go hop hp ?_;rw[ak];have e:Cf (DX b (brk (decide (b.rank<n+1+1)) b.toks) (Az (DX a (brk (decide (a.rank<n+1)) a.toks) s))) {kind:=k,kids:=[((plc a s:Nat):Int),((plc b (Az (DX a (brk (decide (a.rank<n+1)) a.toks) s)):Nat):Int)]}=DX (.two k a b) (Tr.two k a b).toks s:=by
      rw[a2];simp only[Cf,DX,Az,Tr.flat,Cn.mk.injEq,B6,AaF,B8,plc,Tr.flat_len];exact⟨by omega,trivial,trivial⟩
     have e2:(DX b (brk (decide (b.rank<n+1+1)) b.toks) (Az (DX a (brk (decide (a.rank<n+1)) a.toks) s))).out.length=plc (.two k a b) s:=by
      simp only[DX,Az,plc,Tr.cnt,B6,Tr.flat_len];omega
     rw[e,e2];exact hr
    ·rw[if_neg ai] at hp;rw[if_neg AeV] at hr;subst hr;exact .loop_err hop hp
   ·rename_i a3;rw[if_neg AeV] at hr;exact hr
  exact Ud (m:=n) (by simp only[Tr.rank,ac]) AdV (hK.m hn) (λ_=>hK)
 | _,.call x .nil,hf=>by
  obtain⟨a7,a8⟩:=L4 hf.1;refine SK ?_ ⟨_,_,rfl,by rintro⟨e,_⟩;cases e⟩ rfl;intro T s R hs hl hfol;have hl:Left T s=⟨3,x,0,Bh,0⟩::sg [40]::sg [41]::R:=hl;obtain⟨t1,t2,_⟩:=D5 hl;have a1:Left T (Az s)=sg [40]::sg [41]::R:=Bu (w:=[_]) hl rfl;have a4:Left T (A3 (Az (Az s)))=sg [41]::R:=Bu (w:=[_]) a1 rfl;have a9:Cx T (Az s) [40]=true:=by rw[CL a1];rfl
  have ad:Cx T (A3 (Az (Az s))) [41]=true:=by rw[CL a4];rfl
  show PE T .prim s _;unfold J9;by_cases hd:s.deep<12
  ·rw[if_pos Ae0];have:=PE.pr_call0 t1 (by rw[t2];exact a7) (by rw[t2];exact a8) a9 hd ad;rw[t2] at this;exact this
  ·rw[if_neg (by show ¬s.deep+1≤12;omega)]
   exact .pr_calldeep t1 (by rw[t2];exact a7) (by rw[t2];exact a8) a9 AdV
 | _,.call x (.snoc rs a),hf=>by
  obtain⟨a7,a8⟩:=L4 hf.1;have gr:GoR rs:=go rs hf.2.1;have ga:ZO a:=go a hf.2.2;have ra:=Tr.rank_le a hf.2.2;have a5:JH (rs.toks++(a.toks++[sg [41]])):=by
   rcases Tr.first a hf.2.2 with h | h
   ·cases h.1
   ·rcases Tr.first rs hf.2.1 with h2 | h2
    ·rw[h2.2,AbR];exact h.app _
    ·exact h2.app _
  refine SK ?_ ⟨_,_,rfl,by rintro⟨e,_⟩;cases e⟩ rfl;intro T s R hs hl hfol;have hl:Left T s=⟨3,x,0,Bh,0⟩::sg [40]::(rs.toks++(a.toks++(sg [41]::R))):=by rw[hl];simp[Tr.toks]
  obtain⟨t1,t2,_⟩:=D5 hl;have a1:Left T (Az s)=sg [40]::(rs.toks++(a.toks++(sg [41]::R))):=Bu (w:=[_]) hl rfl;have a4:Left T (A3 (Az (Az s)))=rs.toks++(a.toks++(sg [41]::R)):=Bu (w:=[_]) a1 rfl;have a9:Cx T (Az s) [40]=true:=by rw[CL a1];rfl
  have ad:Cx T (A3 (Az (Az s))) [41]=false:=by
   refine Vi (a5.app R) ?_;rw[a4];simp
  have a0:(Tr.call x (.snoc rs a)).need=max rs.need a.need+1:=rfl;show PE T .prim s _;unfold J9;by_cases hd:s.deep<12
  ·refine .pr_call t1 (by rw[t2];exact a7) (by rw[t2];exact a8) a9 hd ad ?_;rw[t2];refine gr T (A3 (Az (Az s))) _ x [] _ Ae0 a4 ?_;have a6:(A3 (Az (Az s))).deep=s.deep+1:=rfl;rw[a6,a0]
   split
   ·rename_i ae;have aa:Left T (DX rs rs.toks (A3 (Az (Az s))))=a.toks++(sg [41]::R):=Bu a4 rfl;have hp:=ga.1 0 AdV T (DX rs rs.toks (A3 (Az (Az s)))) _ Ae0 aa (Xq 0 R);unfold J9 at hp;have af:(DX rs rs.toks (A3 (Az (Az s)))).deep=s.deep+1:=rfl;rw[af] at hp;by_cases a3:s.deep+1+a.need≤12
    ·rw[if_pos a3] at hp;rw[if_pos AdV];have ab:Left T (DX a a.toks (DX rs rs.toks (A3 (Az (Az s)))))=sg [41]::R:=Bu aa rfl;have ag:Cx T (DX a a.toks (DX rs rs.toks (A3 (Az (Az s))))) [44]=false:=by rw[CL ab];rfl
     have ah:Cx T (DX a a.toks (DX rs rs.toks (A3 (Az (Az s))))) [41]=true:=by rw[CL ab];rfl
     have:=PE.ar_end (x:=x) (ks:=[]++rs.kids (A3 (Az (Az s))).out.length) hp ag ah;have e:Cf (CD (Az (DX a a.toks (DX rs rs.toks (A3 (Az (Az s))))))) {kind:=7,text:=x,kids:=[]++rs.kids (A3 (Az (Az s))).out.length++[((plc a (DX rs rs.toks (A3 (Az (Az s)))):Nat):Int)]}=DX (.call x (.snoc rs a)) (Tr.call x (.snoc rs a)).toks s:=by
      simp only[Cf,CD,DX,A3,Az,Tr.flat,Tr.toks,Tr.kids,Cn.mk.injEq,AaF,B6,Abz,B8,plc,Tr.flat_len,AbR];exact⟨by omega,trivial,by omega⟩
     have e2:(DX a a.toks (DX rs rs.toks (A3 (Az (Az s))))).out.length=plc (.call x (.snoc rs a)) s:=by
      simp only[DX,A3,Az,plc,Tr.cnt,B6,Tr.flat_len];omega
     rw[e,e2] at this;exact this
    ·rw[if_neg a3] at hp;rw[if_neg AdV];exact .ar_err hp
   ·rename_i ae;rw[if_neg AdV]
  ·rw[if_neg AdV]
   exact .pr_calldeep t1 (by rw[t2];exact a7) (by rw[t2];exact a8) a9 AdV
 | _,.nil,_=>by
  intro T s R x k0 r hs hl hr;have e:DX Tr.nil Tr.nil.toks s=s:=by simp[DX,Tr.toks,Tr.flat]
  rw[e,if_pos (by show s.deep+0≤12;omega)] at hr
  simpa[Tr.kids] using hr
 | _,.snoc rs a,hf=>by
  have gr:GoR rs:=go rs hf.1;have ga:ZO a:=go a hf.2;have ra:=Tr.rank_le a hf.2;intro T s R x k0 r hs hl hr;have hl:Left T s=rs.toks++(a.toks++(sg [44]::R)):=by rw[hl];simp[Tr.toks]
  have a0:(Tr.snoc rs a).need=max rs.need a.need:=rfl;rw[a0] at hr;refine gr T s _ x k0 r hs hl ?_
  split
  ·rename_i ae;have aa:Left T (DX rs rs.toks s)=a.toks++(sg [44]::R):=Bu hl rfl;have hp:=ga.1 0 AdV T (DX rs rs.toks s) _ hs aa (Aau 0 R);unfold J9 at hp;have af:(DX rs rs.toks s).deep=s.deep:=rfl;rw[af] at hp;by_cases a3:s.deep+a.need≤12
   ·rw[if_pos a3] at hp;rw[if_pos AdV] at hr;have ab:Left T (DX a a.toks (DX rs rs.toks s))=sg [44]::R:=Bu aa rfl;have ag:Cx T (DX a a.toks (DX rs rs.toks s)) [44]=true:=by rw[CL ab];rfl
    refine .ar_go hp ag ?_;have e:Az (DX a a.toks (DX rs rs.toks s))=DX (.snoc rs a) (Tr.snoc rs a).toks s:=by
     simp only[DX,Az,Tr.flat,Tr.toks,Cn.mk.injEq,AaF,B6,Abz,B8,Tr.flat_len];exact⟨by omega,trivial,trivial⟩
    have e2:k0++rs.kids s.out.length++[((plc a (DX rs rs.toks s):Nat):Int)]=k0++(Tr.snoc rs a).kids s.out.length:=by
     simp only[DX,plc,Tr.kids,B6,Tr.flat_len,B8]
    rw[e,e2];exact hr
   ·rw[if_neg a3] at hp;rw[if_neg AdV] at hr;subst hr;exact .ar_err hp
  ·rename_i ae;rw[if_neg AdV] at hr;exact hr
theorem Tr.again(t:Tr false)(hf:t.Fit){T:List Ap}(hT:T.map nA=t.toks++[QB]):DP T (if t.need≤12 then .ok (t.flat 0) else .error 6):=by
 have hg:=(t.go hf).1 0 (by have:=Tr.rank_le t hf;omega) T ⟨0,[],0⟩ [QB] Aei hT (YZ 0);have hg:PE T (.lev 0) ⟨0,[],0⟩ (J9 t.need t t.toks ⟨0,[],0⟩):=hg;unfold J9 at hg;simp only[Acd] at hg;by_cases h:t.need≤12
 ·rw[if_pos h] at hg ⊢;refine⟨_,_,hg,?_,by simp[DX]⟩;have:Left T (DX t t.toks ⟨0,[],0⟩)=[QB]:=Bu (s:=⟨0,[],0⟩) (w:=t.toks) hT rfl;exact(D5 this).1
 ·rw[if_neg h] at hg ⊢;exact .inl hg
def W(l:List Ap):Nat:=(l.flatMap BT).length
theorem JQ:W []=0:=rfl
theorem Dj(t:Ap)(l:List Ap):W (t::l)=(BT t).length+W l:=by simp[W]
theorem JP(l m:List Ap):W (l++m)=W l+W m:=by simp[W]
theorem Mp(s:List UInt8):(BT (sg s)).length=s.length:=rfl
theorem WJ(b:Bool)(l:List Ap):W (brk b l)=W l+if b then 2 else 0:=by
 cases b
 ·simp[brk]
 ·simp only[brk,if_true,Dj,JP,JQ,Mp,AaF,Abz];omega
def pw(T:List Ap)(i:Nat):Nat:=W (T.take i)
theorem Z0(T:List Ap)(i:Nat):pw T (i+1)=pw T i+(BT (T.getD i YE)).length:=by
 unfold pw;rcases Ach i T.length with h | h
 ·rw[AbU,B7 h,JP,AaE,B7 h];simp[W]
 ·rw[AcF h,AcF AdV,AaE,AbI h];rfl
theorem CQ(T:List Ap)(s:Cn):pw T (s.at_+1)=pw T s.at_+(BT (Ad T s)).length:=Z0 T s.at_
theorem Abc(T:List Ap)(i:Nat):pw T i≤W T:=by
 have:=JP (T.take i) (T.drop i);rw[List.take_append_drop] at this;unfold pw;omega
theorem Io(t:Tr false)(L:Nat):W (t.opt L)=W t.toks+if t.rank<L then 2 else 0:=by
 rw[Tr.opt,WJ];by_cases h:t.rank<L<;>simp[h]
theorem Ab3{t:Ap}(h:FC t)(k:t.kind=1):t=⟨1,[],t.num,Bh,0⟩∧0≤t.num∧t.num≤9223372036854775807:=by
 cases h<;>simp_all [sg]
theorem Ab4{t:Ap}(h:FC t)(k:t.kind=2):t=⟨2,t.text,0,Bh,0⟩∧NW t.text=true:=by
 cases h<;>simp_all [sg]
theorem Abj{t:Ap}(h:FC t)(k:t.kind=3):t=⟨3,t.text,0,Bh,0⟩∧NI t.text=true∧B0 t.text=false:=by
 cases h<;>simp_all [sg]
theorem AaB{t:Ap}(h:FC t)(k:t.kind=4):t=⟨4,[],0,t.ref,0⟩∧BA t.ref=true:=by
 cases h<;>simp_all [sg]
theorem Ab5{t:Ap}(h:FC t)(k:t.kind=6):t=⟨6,[],0,Bh,0⟩:=by
 cases h<;>simp_all [sg]
def AaJ(T:List Ap):Prop:=∀t∈T,nA t=QB∨FC (nA t)
theorem Gn{T:List Ap}(h:AaJ T){s:Cn}(hk:(Ad T s).kind≠0):FC (nA (Ad T s)):=by
 rcases Ach s.at_ T.length with hl | hl
 ·have e:Ad T s=T[s.at_]:=by simp[Ad,B7 hl]
  rw[e] at hk ⊢;rcases h _ (Acm hl) with h | h
  ·have:(nA T[s.at_]).kind=0:=by rw[h];rfl
   exact absurd this hk
  ·exact h
 ·have e:Ad T s=YE:=by simp[Ad,AbI hl]
  rw[e] at hk;exact absurd rfl hk
theorem Fx{T:List Ap}{s:Cn}{x:List UInt8}(h:Cx T s x=true):(BT (Ad T s)).length=x.length:=by
 obtain⟨h1,h2⟩:=X2 h;simp[BT,h1,h2]
theorem Rr:∀n,n<4→∀i,i<(Cd n).length→9≤(AP n).getD i 0∧(AP n).getD i 0≤19∧Df ((AP n).getD i 0)=n+1∧FX ((AP n).getD i 0)=(Cd n).getD i []:=by decide
theorem Zx{T:List Ap}{s:Cn}{n i:Nat}(hn:n<4)(h:Jf T s n=some i):9≤(AP n).getD i 0∧(AP n).getD i 0≤19∧Df ((AP n).getD i 0)=n+1∧(BT (Ad T s)).length=(FX ((AP n).getD i 0)).length:=by
 unfold Jf at h
 split at h
 ·rename_i h5;obtain⟨hi,hp,_⟩:=AbN.1 h;obtain⟨a1,a2,a3,a4⟩:=Rr n hn i hi;refine⟨a1,a2,a3,?_⟩;have ht:(Cd n)[i]=(Ad T s).text:=by simpa using hp
  rw[a4,AaE,B7 hi];simp[BT,h5,ht]
 ·cases h
structure Rt(T:List Ap)(L:Nat)(s s1:Cn)(b:Nat)(t:Tr false):Prop where
 fit:t.Fit
 num:t.Num
 out:s1.out=s.out++t.flat s.out.length
 plc:b=s.out.length+t.cnt - 1
 deep:s1.deep=s.deep
 need:s.deep+IW L t.rank t.need≤12
 wid:W (t.opt L)+pw T s.at_≤pw T s1.at_
structure Lt(T:List Ap)(n:Nat)(s s1:Cn)(b:Nat)(o:List Ag)(ta t:Tr false):Prop where
 fit:t.Fit
 num:t.Num
 out:s1.out=o++t.flat o.length
 plc:b=o.length+t.cnt - 1
 deep:s1.deep=s.deep
 need:s.deep+IW (n+1) t.rank t.need≤12
 wid:W (t.opt (n+1))+pw T s.at_≤W (ta.opt (n+1))+pw T s1.at_
structure At(T:List Ap)(s s1:Cn)(b:Nat)(o:List Ag)(x:List UInt8)(rs:Tr true)(r1:Tr true)(a1:Tr false):Prop where
 fit:(Tr.call x (.snoc r1 a1)).Fit
 num:r1.Num∧a1.Num
 out:s1.out=o++(Tr.call x (.snoc r1 a1)).flat o.length
 plc:b=o.length+(Tr.call x (.snoc r1 a1)).cnt - 1
 deep:s1.deep=s.deep - 1
 need:s.deep+(Tr.snoc r1 a1).need≤12
 wid:W r1.toks+W a1.toks+1+pw T s.at_≤W rs.toks+pw T s1.at_
def AaO(T:List Ap)(m:Gf)(s:Cn):HQ→Prop
 | .err _=>True
 | .ok s1 b=>s.deep≤12→match m with
  | .lev n=>n<4→∃t,Rt T (n+1) s s1 b t
  | .unary=>∃t,Rt T 5 s s1 b t
  | .prim=>∃t,Rt T 6 s s1 b t
  | .loop n a=>n<4→∀o (ta:Tr false),ta.Fit→ta.Num→s.out=o++ta.flat o.length→a=o.length+ta.cnt - 1→s.deep+IW (n+1) ta.rank ta.need≤12→∃t,Lt T n s s1 b o ta t
  | .args x ks=>∀o (rs:Tr true),CV x=true→rs.Fit→rs.Num→s.out=o++rs.flat o.length→ks=rs.kids o.length→s.deep+rs.need≤12→1≤s.deep→∃r1 a1,At T s s1 b o x rs r1 a1
theorem XV{L L' r d:Nat}(h:L≤L'):IW L r d≤IW L' r d:=by
 unfold IW
 split<;>split<;>omega
theorem Aa5(L r d:Nat):IW L r d≤d+1:=by
 unfold IW
 split<;>omega
theorem PL(L r d:Nat):d≤IW L r d:=by
 unfold IW
 split<;>omega
theorem VP(t:Tr false){L L':Nat}(h:L≤L'):W (t.opt L)≤W (t.opt L'):=by
 rw[Io,Io]
 split<;>split<;>omega
theorem Rt.low{T:List Ap}{L L':Nat}{s s1:Cn}{b:Nat}{t:Tr false}(h:Rt T L s s1 b t)(hl:L'≤L):Rt T L' s s1 b t:=
 ⟨h.fit,h.num,h.out,h.plc,h.deep,by have:=XV (r:=t.rank) (d:=t.need) hl;have:=h.need;omega,by have:=VP t hl;have:=h.wid;omega⟩
theorem Np{T:List Ap}{n:Nat}(hn:n<4){s s1:Cn}{a:Nat}(h:AaO T (below n) s (.ok s1 a))(hd:s.deep≤12):∃t,Rt T (n+2) s s1 a t:=by
 unfold below at h
 split at h
 ·exact h hd AdV
 ·have e:n=3:=AdV
  subst e;exact h hd
theorem Rt.leaf{T:List Ap}{s s1:Cn}{n:Ag}(k:Int)(hkk:n.kind=k)(h0:1≤k)(h1:k≤6)(hk:n.kids=[])(hp:AH n=true)(hn:∀k∈C2 n,k.num≤9223372036854775807)(hd:s.deep≤12)(ho:s1.out=s.out++[n])(hdd:s1.deep=s.deep)(hw:W (C2 n)+pw T s.at_≤pw T s1.at_):∃t,Rt T 6 s s1 s.out.length t:=by
 refine⟨.leaf n,⟨by omega,by omega,hk,hp⟩,hn,ho,by simp[Tr.cnt],hdd,hd,?_⟩;rw[Io]
 simpa[Tr.rank,Tr.toks] using hw
theorem Uo{a:Tr false}(h:a.Num):(Tr.neg a).Num:=λk hk=>by
 simp only[Tr.toks,AaH] at hk;rcases hk with rfl | hk
 ·decide
 ·rcases Fw hk with hk | rfl | rfl
  ·exact h k hk
  ·decide
  ·decide
theorem Up{o:Int}{a b:Tr false}(h:a.Num)(h':b.Num):(Tr.two o a b).Num:=λk hk=>by
 simp only[Tr.toks,AaC,AaH] at hk;rcases hk with hk | rfl | hk
 ·rcases Fw hk with hk | rfl | rfl
  ·exact h k hk
  ·decide
  ·decide
 ·show(0:Int)≤_;decide
 ·rcases Fw hk with hk | rfl | rfl
  ·exact h' k hk
  ·decide
  ·decide
theorem Ro{rs:Tr true}{a:Tr false}(h:rs.Num)(h':a.Num):(Tr.snoc rs a).Num:=λk hk=>by
 simp only[Tr.toks,AaC,AaH,AbL,or_false] at hk;rcases hk with hk | hk | rfl
 ·exact h k hk
 ·exact h' k hk
 ·decide
theorem Rn{x:List UInt8}{rs:Tr true}{a:Tr false}(h:rs.Num)(h':a.Num):(Tr.call x (.snoc rs a)).Num:=λk hk=>by
 simp only[Tr.toks,AaH,AaC,AbL,or_false] at hk;rcases hk with rfl | rfl | hk | hk | rfl
 ·show(0:Int)≤_;decide
 ·decide
 ·exact h k hk
 ·exact h' k hk
 ·decide
theorem PE.trees{T:List Ap}(hT:AaJ T){m:Gf}{s:Cn}{r:HQ}(h:PE T m s r):AaO T m s r:=by
 induction h with
 | lev_err _ _=>trivial
 | @lev_ok n s s1 a r _ _ ih1 ih2=>
  cases r with
  | err e=>trivial
  | ok s2 b=>
   intro hd hn;obtain⟨t,h1⟩:=Np hn ih1 hd;have h1:=h1.low (show n+1≤n+2 by omega);obtain⟨u,h2⟩:=ih2 (by rw[h1.deep];exact hd) hn s.out t h1.fit h1.num h1.out h1.plc (by rw[h1.deep];exact h1.need)
   exact⟨u,h2.fit,h2.num,h2.out,h2.plc,h2.deep.trans h1.deep,by rw[←h1.deep];exact h2.need,by have:=h1.wid;have:=h2.wid;omega⟩
 | @loop_end n s a _=>exact λhd hn o ta h1 h2 h3 h4 h5=>⟨ta,h1,h2,h3,h4,rfl,h5,Abv _⟩
 | loop_err _ _ _=>trivial
 | @loop_go n s a i s1 b r hi _ _ ih1 ih2=>
  cases r with
  | err e=>trivial
  | ok s2 c=>
   intro hd hn o ta h1 h2 h3 h4 h5;obtain⟨k0,k1,k2,k3⟩:=Zx hn hi;obtain⟨tb,hb⟩:=Np hn ih1 hd;have ag:s1.out=s.out++tb.flat s.out.length:=hb.out;have a9:s1.deep=s.deep:=hb.deep;have al:s.deep+IW (n+2) tb.rank tb.need≤12:=hb.need;have ai:b=s.out.length+tb.cnt - 1:=hb.plc;have am:W (tb.opt (n+2))+pw T (s.at_+1)≤pw T s1.at_:=hb.wid;have a5:s.out.length=o.length+ta.cnt:=by rw[h3,B6,Tr.flat_len]
   have a6:(Tr.two ((AP n).getD i 0) ta tb).need=max (IW (n+1) ta.rank ta.need) (IW (n+2) tb.rank tb.need):=by simp only[Tr.need,k2]
   have a2:(Tr.two ((AP n).getD i 0) ta tb).rank=n+1:=k2;have aa:IW (n+1) (Tr.two ((AP n).getD i 0) ta tb).rank (Tr.two ((AP n).getD i 0) ta tb).need=max (IW (n+1) ta.rank ta.need) (IW (n+2) tb.rank tb.need):=by
    unfold IW;rw[a2,if_neg AdV,a6];rfl
   have hW:W ((Tr.two ((AP n).getD i 0) ta tb).opt (n+1))=W (ta.opt (n+1))+(FX ((AP n).getD i 0)).length+W (tb.opt (n+2)):=by
    have e2:tb.opt (n+2)=brk (decide (tb.rank<n+1+1)) tb.toks:=rfl;have e1:ta.opt (n+1)=brk (decide (ta.rank<n+1)) ta.toks:=rfl;rw[Io,a2,if_neg AdV,e1,e2];simp only[Tr.toks,JP,Dj,Mp,k2];omega
   have a0:=CQ T s;obtain⟨t,h⟩:=ih2 (by show s1.deep≤12;omega) hn o (.two ((AP n).getD i 0) ta tb) ⟨k0,k1,h1,hb.fit⟩ (Up h2 hb.num) (by
    show s1.out++[_]=_;rw[ag,ai,h3,h4];simp only[Tr.flat,B8,B6,Tr.flat_len]) (by
    show s1.out.length=_;rw[ag,B6,Tr.flat_len,a5];simp only[Tr.cnt];omega) (by
    show s1.deep+_≤12;rw[aa,a9];omega)
   have e1:(Cf s1 {kind:=(AP n).getD i 0,kids:=[(a:Int),(b:Int)]}).deep=s1.deep:=rfl;have e2:(Cf s1 {kind:=(AP n).getD i 0,kids:=[(a:Int),(b:Int)]}).at_=s1.at_:=rfl;refine⟨t,h.fit,h.num,h.out,h.plc,by rw[h.deep,e1,a9],by have:=h.need;rw[e1,a9] at this;exact this,?_⟩;have:=h.wid;rw[e2,hW] at this
   omega
 | @un_prim s r _ _ ih=>
  cases r with
  | err e=>trivial
  | ok s2 b=>
   intro hd;obtain⟨t,h⟩:=ih hd
   exact⟨t,h.low AdV⟩
 | un_deep _ _=>trivial
 | un_err _ _ _ _=>trivial
 | @un_ok s s1 a hi hd _ ih=>
  intro _;obtain⟨t,h⟩:=ih Ae0;have ho:s1.out=s.out++t.flat s.out.length:=h.out;have a7:s1.deep=s.deep+1:=h.deep;have a8:s.deep+1+IW 5 t.rank t.need≤12:=h.need;have hp:a=s.out.length+t.cnt - 1:=h.plc;have hw:W (t.opt 5)+pw T (s.at_+1)≤pw T s1.at_:=h.wid;have a0:=CQ T s;have hc:=Fx hi;simp only[AaF,Abz] at hc;refine⟨.neg t,h.fit,Uo h.num,?_,?_,?_,?_,?_⟩
  ·show s1.out++[_]=_;rw[ho,hp];simp only[Tr.flat,B8]
  ·rw[ho,B6,Tr.flat_len];simp only[Tr.cnt];omega
  ·show s1.deep - 1=s.deep;omega
  ·have:IW 5 (Tr.neg t).rank (Tr.neg t).need=IW 5 t.rank t.need+1:=rfl;rw[this];omega
  ·have:W ((Tr.neg t).opt 5)=1+W (t.opt 5):=by
    rw[Io (.neg t)];simp only[Tr.rank,Tr.toks,Dj,Mp,Tr.opt,AaF,Abz];rfl
   rw[this];show _≤pw T s1.at_
   omega
 | pr_sign _ _=>trivial
 | pr_deep _ _=>trivial
 | pr_err _ _ _ _=>trivial
 | pr_open _ _ _ _ _=>trivial
 | @pr_ok s s1 a hi hd _ a4 ih=>
  intro _;obtain⟨t,h⟩:=ih Ae0 AdV;have a7:s1.deep=s.deep+1:=h.deep;have a8:s.deep+1+IW 1 t.rank t.need≤12:=h.need;have hw:W (t.opt 1)+pw T (s.at_+1)≤pw T s1.at_:=h.wid;have a0:=CQ T s;have a3:=CQ T s1;have hc:=Fx hi;have ab:=Fx a4;simp only[AaF,Abz] at hc ab;refine⟨t,h.fit,h.num,h.out,h.plc,?_,?_,?_⟩
  ·show s1.deep - 1=s.deep;omega
  ·have:=Aa5 6 t.rank t.need;have:=PL 1 t.rank t.need;omega
  ·show _≤pw T (s1.at_+1);rw[Io] at hw ⊢
   split<;>omega
 | pr_end _=>trivial
 | @pr_num s h=>
  intro hd;obtain⟨e,h0,h1⟩:=Ab3 (Gn hT (s:=s) AdV) h;have a0:=CQ T s;have ek:C2 {kind:=1,num:=(Ad T s).num}=[nA (Ad T s)]:=by rw[e];rfl
  refine Rt.leaf 1 rfl AdZ AdZ rfl (C9 (by show decide (0≤(Ad T s).num)=true;exact decide_eq_true h0) ⟨rfl,rfl,rfl,rfl⟩) (by rw[ek];intro k hk;rw[B3.1 hk];exact h1) hd rfl rfl ?_;rw[ek,Dj,JQ,Jc];show _≤pw T (s.at_+1)
  omega
 | @pr_text s h=>
  intro hd;obtain⟨e,h0⟩:=Ab4 (Gn hT (s:=s) AdV) h;have a0:=CQ T s;have ek:C2 {kind:=2,text:=(Ad T s).text}=[nA (Ad T s)]:=by rw[e];rfl
  refine Rt.leaf 2 rfl AdZ AdZ rfl (C9 (by show NW (Ad T s).text=true;exact h0) ⟨rfl,rfl,rfl,rfl⟩) Ae3 hd rfl rfl ?_;rw[ek,Dj,JQ,Jc];show _≤pw T (s.at_+1)
  omega
 | @pr_dead s h=>
  intro hd;have e:=Ab5 (Gn hT (s:=s) AdV) h;have a0:=CQ T s;have ek:C2 {kind:=4}=[nA (Ad T s)]:=by rw[e];rfl
  refine Rt.leaf 4 rfl AdZ AdZ rfl rfl Ae3 hd rfl rfl ?_;rw[ek,Dj,JQ,Jc];show _≤pw T (s.at_+1)
  omega
 | @pr_ref s h _=>
  intro hd;obtain⟨e,h0⟩:=AaB (Gn hT (s:=s) AdV) h;have a0:=CQ T s;have ek:C2 {kind:=5,ref:=(Ad T s).ref}=[nA (Ad T s)]:=by rw[e];rfl
  refine Rt.leaf 5 rfl AdZ AdZ rfl (C9 (by show BA (Ad T s).ref=true;exact h0) ⟨rfl,rfl,rfl,rfl⟩) Ae3 hd rfl rfl ?_;rw[ek,Dj,JQ,Jc];show _≤pw T (s.at_+1)
  omega
 | @pr_range s h hi h' hr=>
  intro hd;obtain⟨e,h0⟩:=AaB (Gn hT (s:=s) AdV) h;obtain⟨e',ac⟩:=AaB (Gn hT (s:=Az (Az s)) AdV) h';have a0:=CQ T s;have a3:pw T (s.at_+1+1)=pw T (s.at_+1)+(BT (Ad T (Az s))).length:=CQ T (Az s);have ad:pw T (s.at_+1+1+1)=pw T (s.at_+1+1)+(BT (Ad T (Az (Az s)))).length:=CQ T (Az (Az s));have hc:=Fx hi;simp only[AaF,Abz] at hc;have ek:C2 {kind:=6,ref:=(Ad T s).ref,to:=(Ad T (Az (Az s))).ref}=[nA (Ad T s),sg [58],nA (Ad T (Az (Az s)))]:=by rw[e,e'];rfl
  refine Rt.leaf 6 rfl AdZ AdZ rfl (C9 (by show(BA (Ad T s).ref&&(BA (Ad T (Az (Az s))).ref&&BV (Ad T s).ref (Ad T (Az (Az s))).ref))=true;have h0:BA (Ad T s).ref=true:=h0;have ac:BA (Ad T (Az (Az s))).ref=true:=ac;rw[h0,ac,hr];rfl) ⟨rfl,rfl,rfl,rfl⟩) (by
   rw[ek];intro k hk;simp only[AaH,AbL,or_false] at hk;rcases hk with rfl | rfl | rfl
   ·rw[e];show(0:Int)≤9223372036854775807;decide
   ·decide
   ·rw[e'];show(0:Int)≤9223372036854775807;decide) hd rfl rfl ?_
  rw[ek,Dj,Dj,Dj,JQ,Jc,Jc,Mp];show _≤pw T (s.at_+1+1+1);simp only[AaF,Abz]
  omega
 | pr_norange _ _ _=>trivial
 | @pr_true s h h1=>
  intro hd;have a0:=CQ T s;have hl:(BT (Ad T s)).length=4:=by simp[BT,h,h1,Ee]
  refine Rt.leaf 3 rfl AdZ AdZ rfl rfl AdZ hd rfl rfl ?_;have:W (C2 {kind:=3,num:=1})=4:=rfl;rw[this];show _≤pw T (s.at_+1)
  omega
 | @pr_false s h h1=>
  intro hd;have a0:=CQ T s;have hl:(BT (Ad T s)).length=5:=by simp[BT,h,h1,Dt]
  refine Rt.leaf 3 rfl AdZ AdZ rfl rfl AdZ hd rfl rfl ?_;have:W (C2 {kind:=3})=5:=rfl;rw[this];show _≤pw T (s.at_+1)
  omega
 | pr_nocall _ _ _ _=>trivial
 | pr_calldeep _ _ _ _ _=>trivial
 | @pr_call0 s h h1 h2 ae hd a4=>
  intro _;obtain⟨e,f0,f1⟩:=Abj (Gn hT (s:=s) AdV) h;have hn:CV (Ad T s).text=true:=by
   have f0:NI (Ad T s).text=true:=f0;have f1:B0 (Ad T s).text=false:=f1;simp[CV,f0,f1,h1,h2]
  have a0:=CQ T s;have a3:pw T (s.at_+1+1)=pw T (s.at_+1)+(BT (Ad T (Az s))).length:=CQ T (Az s);have ad:pw T (s.at_+1+1+1)=pw T (s.at_+1+1)+(BT (Ad T (A3 (Az (Az s))))).length:=CQ T (A3 (Az (Az s)));have hc:=Fx ae;have ab:=Fx a4;have hx:(BT (Ad T s)).length=(Ad T s).text.length:=by simp[BT,h]
  simp only[AaF,Abz] at hc ab;refine⟨.call (Ad T s).text .nil,⟨hn,trivial⟩,?_,rfl,by simp[Tr.cnt],rfl,?_,?_⟩
  ·intro k hk;simp only[Tr.toks,AaH,AbL,or_false] at hk;rcases hk with rfl | rfl | rfl
   ·show(0:Int)≤_;decide
   ·decide
   ·decide
  ·show s.deep+1≤12;omega
  ·rw[Io];simp only[Tr.rank,Tr.toks,Dj,JQ,Mp,AaF,Abz];show(Ad T s).text.length+_+_+_≤pw T (s.at_+1+1+1);simp
   omega
 | @pr_call s r h h1 h2 ae hd a4 _ ih=>
  cases r with
  | err e=>trivial
  | ok s2 b=>
   intro _;obtain⟨e,f0,f1⟩:=Abj (Gn hT (s:=s) AdV) h;have hn:CV (Ad T s).text=true:=by
    have f0:NI (Ad T s).text=true:=f0;have f1:B0 (Ad T s).text=false:=f1;simp[CV,f0,f1,h1,h2]
   obtain⟨r1,a1,hh⟩:=ih Ae0 s.out .nil hn trivial (λk hk=>by cases hk) (by simp[Tr.flat,A3,Az]) rfl (by show s.deep+1+0≤12;omega) (by show 1≤s.deep+1;omega);have a0:=CQ T s;have a3:pw T (s.at_+1+1)=pw T (s.at_+1)+(BT (Ad T (Az s))).length:=CQ T (Az s);have hc:=Fx ae;have hx:(BT (Ad T s)).length=(Ad T s).text.length:=by simp[BT,h]
   simp only[AaF,Abz] at hc;have a8:s.deep+1+(Tr.snoc r1 a1).need≤12:=hh.need;have hw:W r1.toks+W a1.toks+1+pw T (s.at_+1+1)≤0+pw T s2.at_:=hh.wid;have a7:s2.deep=s.deep+1 - 1:=hh.deep;refine⟨.call (Ad T s).text (.snoc r1 a1),hh.fit,Rn hh.num.1 hh.num.2,hh.out,hh.plc,by omega,?_,?_⟩
   ·show s.deep+((Tr.snoc r1 a1).need+1)≤12;omega
   ·rw[Io];simp only[Tr.rank,Tr.toks,Dj,JP,JQ,Mp,AaF,Abz];show(Ad T s).text.length+_+_+_≤_;simp
    omega
 | ar_err _ _=>trivial
 | @ar_go x ks s s1 a r _ ah _ ih1 ih2=>
  cases r with
  | err e=>trivial
  | ok s2 b=>
   intro hd o rs hx h1 h2 h3 h4 h5 h6;obtain⟨t,h⟩:∃t,Rt T 1 s s1 a t:=ih1 hd AdV;have aj:=PL 1 t.rank t.need;have a8:=h.need;have a7:=h.deep;have a5:s.out.length=o.length+rs.cnt:=by rw[h3,B6,Tr.flat_len]
   obtain⟨r1,a1,hh⟩:=ih2 (by show s1.deep≤12;omega) o (.snoc rs t) hx ⟨h1,h.fit⟩ (Ro h2 h.num) (by
    show s1.out=_;rw[h.out,h3];simp only[Tr.flat,B8,B6,Tr.flat_len]) (by
    rw[h4,h.plc,a5];simp only[Tr.kids]) (by
    show s1.deep+max rs.need t.need≤12;omega) (by show 1≤s1.deep;omega)
   have af:W (t.opt 1)+pw T s.at_≤pw T s1.at_:=h.wid;have ak:W r1.toks+W a1.toks+1+pw T (s1.at_+1)≤W (Tr.snoc rs t).toks+pw T s2.at_:=hh.wid;have a0:=CQ T s1;have hc:=Fx ah;simp only[AaF,Abz] at hc;have an:s2.deep=s1.deep - 1:=hh.deep;have ao:s1.deep+(Tr.snoc r1 a1).need≤12:=hh.need;refine⟨r1,a1,hh.fit,hh.num,hh.out,hh.plc,by omega,by omega,?_⟩;rw[Io] at af;simp only[Tr.toks,JP,Dj,JQ,Mp,AaF,Abz] at ak
   omega
 | ar_open _ _ _ _=>trivial
 | @ar_end x ks s s1 a _ ah a4 ih=>
  intro hd o rs hx h1 h2 h3 h4 h5 h6;obtain⟨t,h⟩:∃t,Rt T 1 s s1 a t:=ih hd AdV;have aj:=PL 1 t.rank t.need;have a8:=h.need;have a7:=h.deep;have a5:s.out.length=o.length+rs.cnt:=by rw[h3,B6,Tr.flat_len]
  have af:W (t.opt 1)+pw T s.at_≤pw T s1.at_:=h.wid;have a0:=CQ T s1;have hc:=Fx a4;simp only[AaF,Abz] at hc;refine⟨rs,t,⟨hx,h1,h.fit⟩,⟨h2,h.num⟩,?_,?_,by show s1.deep - 1=s.deep - 1;omega,?_,?_⟩
  ·show s1.out++[_]=_;rw[h.out,h3,h4,h.plc,a5];simp only[Tr.flat,Tr.kids,B8,B6,Tr.flat_len]
  ·rw[h.out,h3];simp only[B6,Tr.flat_len,Tr.cnt];omega
  ·show s.deep+max rs.need t.need≤12;omega
  ·show _≤_+pw T (s1.at_+1);rw[Io] at af;omega
theorem Wf{s:List UInt8}{T:List Ap}{l:List Ag}(h:Jw s=some T)(hp:DP T (.ok l)):∃t:Tr false,t.Fit∧t.Num∧t.flat 0=l∧t.need≤12∧t.text.length≤s.length:=by
 obtain⟨hC,hw⟩:=QV _ s 0 (Abv _) h;obtain⟨s1,a,a0,_,ho⟩:=hp;obtain⟨t,ht⟩:=(a0.trees hC) Aei AdV;have h1:=ht.out;have h2:=ht.need;have h3:=ht.wid;have h4:=PL 1 t.rank t.need;have h5:=Abc T s1.at_;rw[Io] at h3;have h6:W T≤s.length:=hw;refine⟨t,ht.fit,ht.num,by rw[←ho,h1];rfl,by simp only[Acd] at h2;omega,?_⟩;show W t.toks≤_;omega
noncomputable def AY(s:List UInt8):Except Int (List Ag):=open Classical in
 if 300<s.length then .error 4 else match Jw s with
 | none=>.error 5
 | some T=>if h:∃o,DP T o then h.choose else .error 0
theorem KK{s:List UInt8}{T:List Ap}{o:Except Int (List Ag)}(h300:s.length≤300)(hl:Jw s=some T)(hp:DP T o):AY s=o:=by
 unfold AY;rw[if_neg AdV,hl];have hx:∃o,DP T o:=⟨o,hp⟩;simp only;rw[dif_pos hx];exact hx.choose_spec.det hp
theorem Eg.res{s:List UInt8}{v:Value}{w:World}{lo:Nat}(h:Eg s v w lo):AaP w lo v (AY s):=by
 unfold Eg at h;by_cases h1:300<s.length
 ·rw[if_pos h1] at h;have:AY s=.error 4:=by unfold AY;rw[if_pos h1]
  rw[this];exact h
 ·rw[if_neg h1] at h
  cases e:Jw s with
  | none=>
   rw[e] at h;have:AY s=.error 5:=by unfold AY;rw[if_neg h1,e]
   rw[this];exact h
  | some T=>
   rw[e] at h;obtain⟨o,hp,hr⟩:=h;rw[KK AdV e hp];exact hr
theorem ON{s:List UInt8}{l:List Ag}(h:AY s=.ok l):s.length≤300∧∃t:Tr false,t.Fit∧t.Num∧t.flat 0=l∧t.need≤12∧t.text.length≤s.length:=by
 unfold AY at h
 split at h
 ·cases h
 ·rename_i h1
  split at h
  ·cases h
  ·rename_i T e
   split at h
   ·rename_i hx;have:=hx.choose_spec;rw[h] at this;exact⟨by omega,Wf e this⟩
   ·cases h
theorem EW(t:Tr false)(hf:t.Fit)(hn:t.Num):AY t.text=if 300<t.text.length then .error 4 else if t.need≤12 then .ok (t.flat 0) else .error 6:=by
 obtain⟨T,h1,h2⟩:=t.lex hf hn;by_cases h3:300<t.text.length
 ·rw[if_pos h3];unfold AY;rw[if_pos h3]
 ·rw[if_neg h3];exact KK AdV h1 (t.again hf h2)
def Ed(o:Nat):Tr false→Ag
 | .leaf n=>n
 | .neg a=>{kind:=8,kids:=[((o+a.cnt - 1:Nat):Int)]}
 | .two k a b=>{kind:=k,kids:=[((o+a.cnt - 1:Nat):Int),((o+a.cnt+b.cnt - 1:Nat):Int)]}
 | .call x ks=>{kind:=7,text:=x,kids:=ks.kids o}
def Q3(o:Nat):Tr false→List Ag
 | .leaf _=>[]
 | .neg a=>a.flat o
 | .two _ a b=>a.flat o++b.flat (o+a.cnt)
 | .call _ ks=>ks.flat o
theorem D0(o:Nat)(t:Tr false):t.flat o=Q3 o t++[Ed o t]:=by
 cases t with
 | leaf n=>rfl
 | neg a=>rfl
 | two k a b=>rfl
 | call x ks=>rfl
theorem WT(o:Nat)(t:Tr false):(Q3 o t).length+1=t.cnt:=by
 have:=congrArg List.length (D0 o t)
 simpa[Tr.flat_len] using this.symm
theorem Kr{α:Type}{a b:List α}{x y:α}(h:a++[x]=b++[y]):a=b∧x=y:=by
 have:=List.append_inj' h rfl;exact⟨this.1,by simpa using this.2⟩
theorem MI:∀(ks:Tr true) (o o':Nat),(ks.kids o).length=(ks.kids o').length
 | .nil,_,_=>rfl
 | .snoc rs a,o,o'=>by simp[Tr.kids,MI rs o o']
theorem Tr.inj:∀{b:Bool} (t u:Tr b),t.Fit→u.Fit→∀l m:List Ag,l++t.flat l.length=m++u.flat m.length→(b=false∨(t.kids 0).length=(u.kids 0).length)→t=u∧l=m
 | _,.leaf n,u,hf,hu,l,m,h,_=>by
  rw[D0 _ u,←List.append_assoc] at h;obtain⟨h1,h2⟩:=Kr (a:=l) h
  cases u with
  | leaf n'=>exact⟨by rw[show n=n' from h2],by simpa[Q3] using h1⟩
  | neg a=>have:=hf.2.1;rw[h2] at this;simp[Ed] at this
  | two k a b=>have:=hf.2.1;have:=hu.1;rw[h2] at *;simp[Ed] at *;omega
  | call x ks=>have:=hf.2.1;rw[h2] at this;simp[Ed] at this
 | _,.neg a,u,hf,hu,l,m,h,_=>by
  rw[D0 _ u,D0 _ (.neg a),←List.append_assoc,←List.append_assoc] at h;obtain⟨h1,h2⟩:=Kr h
  cases u with
  | leaf n'=>have:=hu.2.1;rw[←show Ed l.length (.neg a)=n' from h2] at this;simp[Ed] at this
  | neg a'=>
   obtain⟨e1,e2⟩:=inj a a' hf hu l m h1 (.inl rfl)
   exact⟨by rw[e1],e2⟩
  | two k a b=>have:=hu.1;have h3:=congrArg Ag.kind h2;simp[Ed] at h3;omega
  | call x ks=>have h3:=congrArg Ag.kind h2;simp[Ed] at h3
 | _,.two k a b,u,hf,hu,l,m,h,_=>by
  rw[D0 _ u,D0 _ (.two k a b),←List.append_assoc,←List.append_assoc] at h;obtain⟨h1,h2⟩:=Kr h;have h3:=congrArg Ag.kind h2;have hk:=hf.1
  cases u with
  | leaf n'=>have:=hu.2.1;simp[Ed] at h3;omega
  | neg a'=>simp[Ed] at h3;omega
  | two k' a' b'=>
   simp only[Q3] at h1;rw[←List.append_assoc,←List.append_assoc] at h1;have e:l.length+a.cnt=(l++a.flat l.length).length:=by simp[Tr.flat_len]
   have e':m.length+a'.cnt=(m++a'.flat m.length).length:=by simp[Tr.flat_len]
   rw[e,e'] at h1;obtain⟨q1,q2⟩:=inj b b' hf.2.2.2 hu.2.2.2 _ _ h1 (.inl rfl);obtain⟨q3,q4⟩:=inj a a' hf.2.2.1 hu.2.2.1 l m q2 (.inl rfl);refine⟨?_,q4⟩
   rw[q1,q3,show k=k' from h3]
  | call x ks=>simp[Ed] at h3;omega
 | _,.call x ks,u,hf,hu,l,m,h,_=>by
  rw[D0 _ u,D0 _ (.call x ks),←List.append_assoc,←List.append_assoc] at h;obtain⟨h1,h2⟩:=Kr h;have h3:=congrArg Ag.kind h2
  cases u with
  | leaf n'=>have:=hu.2.1;simp[Ed] at h3;omega
  | neg a'=>simp[Ed] at h3
  | two k a b=>have:=hu.1;simp[Ed] at h3;omega
  | call x' ks'=>
   have h4:=congrArg (λn=>n.kids.length) h2;simp only[Ed] at h4;obtain⟨q1,q2⟩:=inj ks ks' hf.2 hu.2 l m h1 (.inr (by rw[MI ks 0 l.length,MI ks' 0 m.length];exact h4));have h5:=congrArg Ag.text h2;refine⟨?_,q2⟩
   rw[q1,show x=x' from h5]
 | _,.nil,u,_,_,l,m,h,hk=>by
  rcases u.snoc_form with rfl | ⟨rs,a,rfl⟩
  ·exact⟨rfl,by simpa[Tr.flat] using h⟩
  ·simp[Tr.kids] at hk
 | _,.snoc rs a,u,hf,hu,l,m,h,hk=>by
  rcases u.snoc_form with rfl | ⟨rs',a',rfl⟩
  ·simp[Tr.kids] at hk
  ·simp only[Tr.flat] at h;rw[←List.append_assoc,←List.append_assoc] at h;have e:l.length+rs.cnt=(l++rs.flat l.length).length:=by simp[Tr.flat_len]
   have e':m.length+rs'.cnt=(m++rs'.flat m.length).length:=by simp[Tr.flat_len]
   rw[e,e'] at h;obtain⟨q1,q2⟩:=inj a a' hf.2 hu.2 _ _ h (.inl rfl);obtain⟨q3,q4⟩:=inj rs rs' hf.1 hu.1 l m q2 (.inr (by simpa[Tr.kids] using hk));exact⟨by rw[q1,q3],q4⟩
theorem Tr.goes:∀{b:Bool} (t:Tr b),t.Fit→∀(o:Nat) (st:List Int),B5 o st (t.flat o)=some (st++(if b then t.kids o else[((o+t.cnt - 1:Nat):Int)]))
 | _,.leaf n,hf,o,st=>by
  have hc:Jt n=n.kids.length:=by
   have h1:=hf.1;have h2:=hf.2.1;have a0:Ds n.kind=0:=by
    unfold Ds;rw[if_neg AdV,if_neg AdV,if_neg AdV,if_neg AdV]
   rw[hf.2.2.1,Jt,a0];rfl
  have:=Ix (l:=[]) (i:=o) (st:=st) (st':=st) (ks:=[]) (by simp[B5]) hf.2.2.1 hc hf.2.2.2
  simpa[Tr.cnt,Tr.flat] using this
 | _,.neg a,hf,o,st=>by
  have h:=goes a hf o st;have:=Ix (ks:=[((o+a.cnt - 1:Nat):Int)]) (n:={kind:=8,kids:=[((o+a.cnt - 1:Nat):Int)]}) h rfl rfl rfl;rw[Tr.flat_len] at this
  simpa[Tr.cnt,Tr.flat] using this
 | _,.two k a b,hf,o,st=>by
  have h1:=goes a hf.2.2.1 o st;have h2:=goes b hf.2.2.2 (o+a.cnt) (st++[((o+a.cnt - 1:Nat):Int)]);have hn:=NF hf.1 hf.2.1 ((o+a.cnt - 1:Nat):Int) ((o+a.cnt+b.cnt - 1:Nat):Int);have h3:B5 o st (a.flat o++b.flat (o+a.cnt))=some (st++[((o+a.cnt - 1:Nat):Int),((o+a.cnt+b.cnt - 1:Nat):Int)]):=by
   rw[DV,h1];simp only[AbZ,if_false,Ac6,Tr.flat_len];simp only[AbZ,if_false] at h2;rw[h2];simp
  have:=Ix (n:={kind:=k,kids:=[((o+a.cnt - 1:Nat):Int),((o+a.cnt+b.cnt - 1:Nat):Int)]}) h3 rfl hn.1 hn.2;simp only[B6,Tr.flat_len] at this;simp only[Tr.flat,this,Tr.cnt]
  simp
 | _,.call x ks,hf,o,st=>by
  have h:=goes ks hf.2 o st;simp only[if_true] at h;have hn:=I7 hf.1 (ks.kids o);have:=Ix (n:={kind:=7,text:=x,kids:=ks.kids o}) h rfl hn.1 hn.2;rw[Tr.flat_len] at this
  simpa[Tr.cnt,Tr.flat] using this
 | _,.nil,_,o,st=>by simp[B5,Tr.flat,Tr.kids]
 | _,.snoc rs a,hf,o,st=>by
  have h1:=goes rs hf.1 o st;have h2:=goes a hf.2 (o+rs.cnt) (st++rs.kids o);simp only[if_true] at h1;simp only[AbZ,if_false] at h2;simp only[Tr.flat,Tr.kids,DV,h1,Ac6,Tr.flat_len,h2,if_true];simp
theorem Tr.tree(t:Tr false)(hf:t.Fit):Cw (t.flat 0)=true:=by
 have:=t.goes hf 0 [];simp only[AbR,AbZ,if_false] at this;rw[Cw,this];rfl
noncomputable def BX(l:List Ag):List UInt8:=open Classical in if h:∃t:Tr false,t.Fit∧t.flat 0=l then h.choose.text else[]
theorem F8{t:Tr false}(hf:t.Fit):BX (t.flat 0)=t.text:=by
 unfold BX;have hx:∃u:Tr false,u.Fit∧u.flat 0=t.flat 0:=⟨t,hf,rfl⟩;rw[dif_pos hx];obtain⟨h1,h2⟩:=hx.choose_spec;rw[(Tr.inj _ t h1 hf [] [] AeA (.inl rfl)).1]
theorem OP{l:List Ag}(h:Cw l=false):BX l=[]:=by
 unfold BX;rw[dif_neg];rintro⟨t,hf,rfl⟩;rw[t.tree hf] at h;cases h
theorem Ip{s:List UInt8}{l:List Ag}(h:AY s=.ok l):AY (BX l)=.ok l∧(BX l).length≤s.length∧Cw l=true∧∃t:Tr false,t.Fit∧t.Num∧t.flat 0=l∧BX l=t.text:=by
 obtain⟨h3,t,hf,hn,rfl,hd,hl⟩:=ON h;rw[F8 hf,EW t hf hn,if_neg AdV,if_pos hd];exact⟨rfl,hl,t.tree hf,t,hf,hn,rfl,rfl⟩
theorem KL(s:List UInt8):(Eu s).length≤2*s.length+2:=by
 have:∀s:List UInt8,(s.flatMap (λc=>if c=(34:UInt8) then[34,34] else[c])).length≤2*s.length:=by
  intro s
  induction s with
  | nil=>simp
  | cons c s ih=>
   simp only[AbX,B6,AaF];by_cases h:c=34
   ·rw[if_pos h];simp only[AaF,Abz];omega
   ·rw[if_neg h];simp only[AaF,Abz];omega
 have:=this s;simp only[Eu,AaF,B6,Abz];omega
theorem Pd{r:CH}(h:BA r=true):(Ce r).length≤r.sheet.length+10:=by
 obtain⟨_,_,_,r0,r1⟩:=EE h;have h1:=(IF (z:=r.row+1) AdV AdV).2.2.1;have h2:=Lr r.col;have h3:=Fy r.ac;have h4:=Fy r.ar;unfold Ce
 split<;>simp only[B6,AaF,Abz]<;>omega
theorem Od.get{w:World}{lo:Nat}{sv:Value}{l:List Ag}(h:Od w lo sv l)(hn:0<l.length) :
  ∃(g cap:Nat) (nvs:List NV) (sp:List Value),sv=.slice (some ⟨g,0,none⟩) l.length cap∧Blk w g (nvs.flatMap Dk++sp) 189∧nvs.map NV.node=l∧∀x∈nvs,C8 w x.kv x.node.kids:=by
 obtain⟨nvs,ho,hm,hk⟩:=h;have hl:nvs.length=l.length:=by rw[←hm];simp
 obtain⟨g,cap,sp,rfl,hB,_⟩:=ho.get AdV;exact⟨g,cap,nvs,sp,by rw[hl],hB,hm,hk⟩
theorem VJ{nvs:List NV}{l:List Ag}(hm:nvs.map NV.node=l){i:Nat}{nd:Ag}(h:l[i]?=some nd):∃kv,nvs[i]?=some ⟨nd,kv⟩:=by
 rw[←hm,AbH] at h
 cases e:nvs[i]? with
 | none=>rw[e] at h;cases h
 | some x=>
  rw[e] at h;simp only[AbM,Aa3] at h;exact⟨x.kv,by rw[←h]⟩
theorem Qh{i:Nat}{st st':List Int}{n:Ag}(h:DN i st n=some st'):n.kids.length≤st.length∧st'.length≤st.length+1:=by
 unfold DN at h
 split at h
 ·rename_i hc;simp only[Aa3] at h;subst h;exact⟨hc.2.1,by simp⟩
 ·cases h
theorem LH:∀(l:List Ag) (i:Nat) (st st':List Int),B5 i st l=some st'→∀n∈l,n.kids.length≤st.length+l.length
 | [],_,_,_,_,_,hn=>absurd hn Aei
 | m::t,i,st,st',h,n,hn=>by
  rw[B5] at h
  cases e:DN i st m with
  | none=>rw[e] at h;cases h
  | some s1=>
   rw[e] at h;obtain⟨h1,h2⟩:=Qh e;rcases AaH.1 hn with rfl | hn
   ·simp;omega
   ·have:=LH t (i+1) s1 st' h n hn;simp;omega
theorem NE{l:List Ag}(h:Cw l=true):∀n∈l,n.kids.length≤l.length:=by
 unfold Cw at h
 split at h
 ·rename_i st e;intro n hn;have:=LH l 0 [] st e n hn
  simpa using this
 ·cases h
theorem Od.row{w:World}{lo:Nat}{sv:Value}{l:List Ag}(h:Od w lo sv l)(hl:l.length≤100000)(hk:∀n∈l,n.kids.length≤100000):Da w sv l:=by
 refine⟨hl,?_⟩;by_cases h0:l.length=0
 ·have a1:l=[]:=AbF h0;subst a1;obtain⟨nvs,ho,hm,_⟩:=h;have a2:nvs=[]:=by simpa using hm
  subst a2;obtain⟨_,⟨e,_⟩ | ⟨g,cap,sp,e,hB,_⟩⟩:=ho
  ·exact .inl ⟨e,rfl⟩
  ·exact .inr ⟨_,cap,e,λi nd hi=>by simp at hi⟩
 ·obtain⟨g,cap,nvs,sp,rfl,hB,hm,a0⟩:=h.get AdV;refine .inr ⟨_,cap,rfl,λi nd hi=>?_⟩;obtain⟨kv,hg⟩:=VJ hm hi;refine⟨kv,⟨by have:=hk nd (Ab7 hi);omega,?_⟩,λj u hu=>?_⟩
  ·rcases a0 _ (Ab7 hg) with ⟨e1,e2⟩ | ⟨b',cap',sp',e1,a3⟩
   ·exact .inl ⟨e1,e2⟩
   ·refine .inr ⟨_,cap',e1,λj z hz=>a3.getElem _ _ ?_⟩;rw[AbA (by
     rw[AE];rcases Ach j nd.kids.length with h | h
     ·exact h
     ·rw[AbI h] at hz;cases hz)]
    exact Js hz
  ·have hj:j<14:=by
    rcases Ach j 14 with h | h
    ·exact h
    ·rw[AbI (by rw[XN];exact h)] at hu;cases hu
   rw[Addr.add_add];refine hB.getElem _ _ ?_;rw[M7 XN nvs sp i _ j hg hj];exact hu
theorem PE.errs{T:List Ap}{m:Gf}{s:Cn}{r:HQ}(h:PE T m s r):∀e,r=.err e→e=5∨e=6:=by
 induction h with
 | lev_err _ ih=>intro e he;cases he;exact ih _ rfl
 | lev_ok _ _ _ ih=>exact ih
 | loop_end _=>intro e he;cases he
 | loop_err _ _ ih=>intro e he;cases he;exact ih _ rfl
 | loop_go _ _ _ _ ih=>exact ih
 | un_prim _ _ ih=>exact ih
 | un_deep _ _=>intro e he;cases he;exact .inr rfl
 | un_err _ _ _ ih=>intro e he;cases he;exact ih _ rfl
 | un_ok _ _ _ _=>intro e he;cases he
 | pr_sign _ _=>intro e he;cases he;exact .inl rfl
 | pr_deep _ _=>intro e he;cases he;exact .inr rfl
 | pr_err _ _ _ ih=>intro e he;cases he;exact ih _ rfl
 | pr_open _ _ _ _ _=>intro e he;cases he;exact .inl rfl
 | pr_ok _ _ _ _ _=>intro e he;cases he
 | pr_end _=>intro e he;cases he;exact .inl rfl
 | pr_num _=>intro e he;cases he
 | pr_text _=>intro e he;cases he
 | pr_dead _=>intro e he;cases he
 | pr_ref _ _=>intro e he;cases he
 | pr_range _ _ _ _=>intro e he;cases he
 | pr_norange _ _ _=>intro e he;cases he;exact .inl rfl
 | pr_true _ _=>intro e he;cases he
 | pr_false _ _=>intro e he;cases he
 | pr_nocall _ _ _ _=>intro e he;cases he;exact .inl rfl
 | pr_calldeep _ _ _ _ _=>intro e he;cases he;exact .inr rfl
 | pr_call0 _ _ _ _ _ _=>intro e he;cases he
 | pr_call _ _ _ _ _ _ _ ih=>exact ih
 | ar_err _ ih=>intro e he;cases he;exact ih _ rfl
 | ar_go _ _ _ _ ih=>exact ih
 | ar_open _ _ _ _=>intro e he;cases he;exact .inl rfl
 | ar_end _ _ _ _=>intro e he;cases he
theorem Tr.cnt_le:∀{b:Bool} (t:Tr b),t.Fit→t.Num→t.cnt≤W t.toks
 | _,.leaf n,hf,hn=>by
  obtain⟨u,m,e,hk,_⟩:=GD hf.1 hf.2.1;have hc:=(KS ((Tr.leaf n).can hf hn u (by show u∈C2 n;rw[e];simp))).1;show 1≤W (C2 n);rw[e,Dj];have:=AbS.2 hc
  omega
 | _,.neg a,hf,hn=>by
  have ha:=cnt_le a hf (λu hu=>hn u Aez);simp only[Tr.cnt,Tr.toks,Dj,WJ,Mp,AaF,Abz]
  omega
 | _,.two o a b,hf,hn=>by
  have ha:=cnt_le a hf.2.2.1 (λu hu=>hn u Aes);have hb:=cnt_le b hf.2.2.2 (λu hu=>hn u Aer);have hs:=AbS.2 (Kq _ (Ja hf.1 hf.2.1)).1;simp only[Tr.cnt,Tr.toks,JP,Dj,WJ,Mp]
  omega
 | _,.call x .nil,hf,hn=>by
  simp only[Tr.cnt,Tr.toks,Dj,Mp,AaF,Abz]
  omega
 | _,.call x (.snoc rs a),hf,hn=>by
  have hr:=cnt_le rs hf.2.1 (λu hu=>hn u Aej);have ha:=cnt_le a hf.2.2 (λu hu=>hn u Aej);simp only[Tr.cnt,Tr.toks,Dj,JP,Mp,AaF,Abz]
  omega
 | _,.nil,_,_=>Acp _
 | _,.snoc rs a,hf,hn=>by
  have hr:=cnt_le rs hf.1 (λu hu=>hn u Aej);have ha:=cnt_le a hf.2 (λu hu=>hn u Aej);simp only[Tr.cnt,Tr.toks,JP];omega
def PIs(s:List UInt8)(l:List Ag)(e:Int):Prop:=AY s=.ok l∧e=0∨AY s=.error e∧l=[]∧(e=4∨e=5∨e=6)
theorem PQ{s:List UInt8}{l:List Ag}(h:AY s=.ok l):E0 l:=by
 unfold AY at h
 split at h
 ·cases h
 ·rename_i h1
  split at h
  ·cases h
  ·rename_i T e
   split at h
   ·rename_i hx;have hp:=hx.choose_spec;rw[h] at hp;exact(DP.tree (Zm AdV e) hp).2
   ·cases h
theorem EX{s:List UInt8}{l:List Ag}(h:AY s=.ok l):s.length≤300∧Cw l=true∧E0 l∧l.length≤300∧∀n∈l,n.kids.length≤300:=by
 obtain⟨h3,t,hf,hn,rfl,hd,hl⟩:=ON h;have ht:=t.tree hf;have hc:=t.cnt_le hf hn;have a0:(t.flat 0).length≤300:=by
  rw[Tr.flat_len];have:W t.toks=t.text.length:=rfl;omega
 exact⟨h3,ht,PQ h,a0,λn hm=>Aci (NE ht n hm) a0⟩
theorem PIs.facts{s:List UInt8}{l:List Ag}{e:Int}(h:PIs s l e):E0 l∧l.length≤300∧(∀n∈l,n.kids.length≤300)∧Cw l=decide (e=0)∧0≤e∧e≤6:=by
 rcases h with ⟨h,rfl⟩ | ⟨h,rfl,he⟩
 ·obtain⟨_,h1,h2,h3,h4⟩:=EX h;exact⟨h2,h3,h4,by rw[h1];rfl,by omega,by omega⟩
 ·refine⟨λn hn=>(AbL hn).elim,by simp,λn hn=>(AbL hn).elim,?_,by omega,by omega⟩;have:Cw []=false:=rfl;rw[this];simp;omega
theorem MY(w:World):Da w (.slice none 0 0) []:=⟨by simp,.inl ⟨rfl,rfl⟩⟩
theorem Eg.both{s:List UInt8}{v:Value}{w:World}{lo:Nat}(h:Eg s v w lo):∃l e sv,v=.tuple #[sv,.int .i64 e]∧Da w sv l∧PIs s l e:=by
 have hr:=h.res
 cases hp:AY s with
 | ok l=>
  rw[hp] at hr;obtain⟨sv,rfl,hn⟩:=hr;obtain⟨_,h1,h2,h3,h4⟩:=EX hp
  exact⟨l,0,sv,rfl,hn.row AdV (λn hm=>by have:=h4 n hm;omega),.inl ⟨hp,rfl⟩⟩
 | error e=>
  rw[hp] at hr;refine⟨[],e,_,hr,MY w,.inr ⟨hp,rfl,?_⟩⟩;unfold Eg at h;by_cases h1:300<s.length
  ·have:AY s=.error 4:=by unfold AY;rw[if_pos h1]
   rw[this] at hp;simp only[Except.error.injEq] at hp;omega
  ·rw[if_neg h1] at h
   cases hl:Jw s with
   | none=>
    have:AY s=.error 5:=by unfold AY;rw[if_neg h1,hl]
    rw[this] at hp;simp only[Except.error.injEq] at hp
    omega
   | some T=>
    rw[hl] at h;obtain⟨o,a0,_⟩:=h;have:=KK AdV hl a0;rw[hp] at this;subst this;rcases a0 with h | ⟨h,_⟩
    ·have:=h.errs _ rfl;omega
    ·omega
def E8(l:List Ag)(o:Nat){b:Bool}(t:Tr b):Prop:=∃suf,l.drop o=t.flat o++suf
theorem K7{l:List Ag}{o n:Nat}{x y:List Ag}(h:l.drop o=x++y)(hn:x.length=n):l.drop (o+n)=y:=by
 rw[←List.drop_drop,h,←hn,Ad6]
theorem E8.node{l:List Ag}{o:Nat}{t:Tr false}(h:E8 l o t):l[o+t.cnt - 1]?=some (Ed o t):=by
 obtain⟨suf,h⟩:=h;rw[D0,B8] at h;have hb:=WT o t;have e:=K7 h rfl;have e2:o+t.cnt - 1=o+(Q3 o t).length:=AdV
 have:=congrArg List.head? e;rw[e2,←List.head?_drop,this];rfl
theorem E8.neg{l:List Ag}{o:Nat}{a:Tr false}(h:E8 l o (.neg a)):E8 l o a:=by
 obtain⟨suf,h⟩:=h;simp only[Tr.flat,B8] at h;exact⟨_,h⟩
theorem E8.two{l:List Ag}{o:Nat}{k:Int}{a b:Tr false}(h:E8 l o (.two k a b)):E8 l o a∧E8 l (o+a.cnt) b:=by
 obtain⟨suf,h⟩:=h;simp only[Tr.flat,B8] at h;exact⟨⟨_,h⟩,_,K7 h (a.flat_len o)⟩
theorem E8.call{l:List Ag}{o:Nat}{x:List UInt8}{ks:Tr true}(h:E8 l o (.call x ks)):E8 l o ks:=by
 obtain⟨suf,h⟩:=h;simp only[Tr.flat,B8] at h;exact⟨_,h⟩
theorem E8.snoc{l:List Ag}{o:Nat}{ks:Tr true}{a:Tr false}(h:E8 l o (.snoc ks a)):E8 l o ks∧E8 l (o+ks.cnt) a:=by
 obtain⟨suf,h⟩:=h;simp only[Tr.flat,B8] at h;exact⟨⟨_,h⟩,_,K7 h (ks.flat_len o)⟩
theorem E8.whole(t:Tr false):E8 (t.flat 0) 0 t:=⟨[],by simp⟩
def Tr.row(o:Nat):{b:Bool}→Tr b→List (Nat×Tr false)
 | _,.snoc ks a=>ks.row o++[(o+ks.cnt,a)]
 | _,_=>[]
theorem RH(o:Nat):∀(ks:Tr true),ks.kids o=(ks.row o).map (λx=>((x.1+x.2.cnt - 1:Nat):Int))
 | .nil=>rfl
 | .snoc rs a=>by simp[Tr.kids,Tr.row,RH o rs]
theorem Tr.cnt_pos(t:Tr false):0<t.cnt:=by cases t<;>simp[Tr.cnt]
theorem OY(rs:Tr true)(a:Tr false):(Tr.snoc rs a).text=rs.text++(a.text++[44]):=by
 simp only[Tr.text,Tr.toks,Acl,AbX,AdJ,Do,AbG]
theorem Pg(x:List UInt8):BT ⟨3,x,0,Bh,0⟩=x:=rfl
theorem Oi(x:List UInt8)(rs:Tr true)(a:Tr false):(Tr.call x (.snoc rs a)).text=x++([40]++(rs.text++(a.text++[41]))):=by
 simp only[Tr.text,Tr.toks,Acl,AbX,AdJ,Do,Pg,AbG]
theorem U2{l:List Ag}{o:Nat}:∀(ks:Tr true),ks.Fit→ks.Num→E8 l o ks→∀x∈ks.row o,E8 l x.1 x.2∧x.2.Fit∧x.2.Num∧x.2.cnt≤ks.cnt∧x.2.text.length≤ks.text.length
 | .nil,_,_,_,x,hx=>by cases hx
 | .snoc rs a,hf,hn,h,x,hx=>by
  have hnr:rs.Num:=λu hu=>hn u Aej;have hna:a.Num:=λu hu=>hn u Aej;have htx:(Tr.snoc rs a).text.length=rs.text.length+a.text.length+1:=by rw[OY];simp only[B6,AaF,Abz];omega
  simp only[Tr.row,AaC,B3] at hx;rcases hx with hx | rfl
  ·obtain⟨h1,h2,h3,h4,h5⟩:=U2 rs hf.1 hnr h.snoc.1 x hx;exact⟨h1,h2,h3,by simp only[Tr.cnt];omega,by omega⟩
  ·exact⟨h.snoc.2,hf.2,hna,by simp[Tr.cnt],by simp only;omega⟩
def Jd(b:Bool)(s:List UInt8):List UInt8:=if b then[40]++s++[41] else s
theorem Q4(b:Bool)(l:List Ap):(brk b l).flatMap BT=Jd b (l.flatMap BT):=by
 unfold brk Jd
 split<;>simp[Do]
theorem Rl(a:Tr false):(Tr.neg a).text=[45]++Jd (decide (a.rank<5)) a.text:=by
 simp[Tr.text,Tr.toks,Do,Q4]
theorem RZ(k:Int)(a b:Tr false):(Tr.two k a b).text=Jd (decide (a.rank<Df k)) a.text++FX k++Jd (decide (b.rank<Df k+1)) b.text:=by
 simp[Tr.text,Tr.toks,Do,Q4]
def T3(r:List (Nat×Tr false)):List UInt8:=r.flatMap (λx=>x.2.text++[44])
theorem RI(o:Nat):∀(ks:Tr true),ks.text=T3 (ks.row o)
 | .nil=>rfl
 | .snoc rs a=>by
  have ih:=RI o rs;simp only[Tr.text] at ih;simp[Tr.text,Tr.toks,Tr.row,T3,ih,Do]
def LQ(r:List (Nat×Tr false)):Nat→List UInt8
 | 0=>[]
 | i+1=>T3 (r.take i)++(match r[i]? with
  | some x=>x.2.text
  | none=>[])
theorem Wh{r:List (Nat×Tr false)}{i:Nat}{x:Nat×Tr false}(h:r[i]?=some x):T3 (r.take (i+1))=T3 (r.take i)++x.2.text++[44]:=by
 rw[AbU,h];simp[T3]
theorem OV{r:List (Nat×Tr false)}{i:Nat}{x:Nat×Tr false}(h:r[i]?=some x):LQ r (i+1)=LQ r i++(if 0<i then[44] else[])++x.2.text:=by
 cases i with
 | zero=>simp[LQ,h,T3]
 | succ j=>
  have hj:j<r.length:=by
   rcases Ach j r.length with h' | h'
   ·exact h'
   ·rw[AbI AdV] at h;cases h
  have hy:r[j]?=some r[j]:=B7 hj;simp only[LQ,h,hy,Wh hy];simp
theorem Oj(x:List UInt8)(o:Nat)(ks:Tr true):(Tr.call x ks).text=x++[40]++LQ (ks.row o) (ks.row o).length++[41]:=by
 rcases ks.snoc_form with rfl | ⟨rs,a,rfl⟩
 ·simp[Tr.text,Tr.toks,Do,Pg,Tr.row,LQ]
 ·have hr:=RI o rs;have hl:(rs.row o++[(o+rs.cnt,a)]).length=(rs.row o).length+1:=Aei
  simp only[Tr.row,hl,LQ];rw[Oi,hr];simp
theorem OA{n:Ag}(hp:AH n=true)(h0:1≤n.kind)(h1:n.kind≤6):(Tr.leaf n).text=if n.kind=1 then Lib.itoa n.num else if n.kind=2 then Eu n.text else if n.kind=3 then(if n.num=1 then Ee else Dt) else if n.kind=4 then Jk else if n.kind=5 then DB n.ref else DB n.ref++[58]++DB n.to:=by
 have ho:=EY hp;have:n.kind=1∨n.kind=2∨n.kind=3∨n.kind=4∨n.kind=5∨n.kind=6:=AdV
 rcases this with h | h | h | h | h | h<;>simp only[IR,h,if_true,if_false,Int.reduceEq,AaG,decide_eq_true_eq] at ho<;>simp[Tr.text,Tr.toks,C2,h,BT,sg]
 ·rw[DB,if_pos ho]
 ·rw[DB,DB,if_pos ho.1,if_pos ho.2.1]
theorem Wg(o:Nat)(t:Tr false)(hf:t.Fit):Df (Ed o t).kind=t.rank:=by
 cases t with
 | leaf n=>
  have h0:=hf.1;have h1:=hf.2.1;show Df n.kind=6;unfold Df
  rw[if_neg AdV,if_neg AdV,if_neg AdV,if_neg AdV,if_neg AdV]
 | neg a=>rfl
 | two k a b=>rfl
 | call x ks=>rfl
theorem WV(b:Bool)(s:List UInt8):s.length≤(Jd b s).length∧(Jd b s).length≤s.length+2:=by
 unfold Jd
 split
 ·simp only[B6,AaF,Abz];omega
 ·omega
theorem KN{r:List (Nat×Tr false)}(i:Nat):∀k,i+k≤r.length→(LQ r i).length≤(LQ r (i+k)).length
 | 0,_=>Abv _
 | k+1,h=>by
  have ih:=KN (r:=r) i k AdV;have hlt:i+k<r.length:=AdV
  have hx:r[i+k]?=some r[i+k]:=B7 hlt;have e:=congrArg List.length (OV hx);simp only[B6] at e;rw[←Nat.add_assoc,e];omega
theorem WW{x:List UInt8}{ks:Tr true}(h:(Tr.call x ks).Num):ks.Num:=by
 rcases ks.snoc_form with rfl | ⟨rs,a,rfl⟩
 ·intro u hu;cases hu
 ·intro u hu;simp only[Tr.toks,AaC,AaH,AbL,or_false] at hu;rcases hu with hu | hu | rfl
  ·exact h u Aej
  ·exact h u Aej
  ·simp[sg]
theorem Tr.num_of:∀{b:Bool} (t:Tr b) (o:Nat),t.Fit→(∀n∈t.flat o,n.num≤9223372036854775807)→t.Num
 | _,.leaf n,o,hf,hs=>by
  have hx:=hs n (by simp[Tr.flat]);intro u hu;have h0:=hf.1;have h1:=hf.2.1;have:n.kind=1∨n.kind=2∨n.kind=3∨n.kind=4∨n.kind=5∨n.kind=6:=AdV
  rcases this with h | h | h | h | h | h<;>simp only[Tr.toks,C2,h,if_true,if_false,Int.reduceEq,AaH,AbL,or_false] at hu
  ·subst hu;exact hx
  ·subst hu;simp
  ·subst hu;simp
  ·subst hu;simp
  ·subst hu;simp
  ·rcases hu with rfl | rfl | rfl<;>simp[sg]
 | _,.neg a,o,hf,hs=>by
  have ha:=num_of a o hf (λn hm=>hs n Aeo);intro u hu;simp only[Tr.toks,AaH] at hu;rcases hu with rfl | hu
  ·simp[sg]
  ·rcases Fw hu with hu | rfl | rfl
   ·exact ha u hu
   ·simp[sg]
   ·simp[sg]
 | _,.two k a b,o,hf,hs=>by
  have ha:=num_of a o hf.2.2.1 (λn hm=>hs n Aeo);have hb:=num_of b (o+a.cnt) hf.2.2.2 (λn hm=>hs n Aeo);intro u hu;simp only[Tr.toks,AaC,AaH] at hu;rcases hu with hu | rfl | hu
  ·rcases Fw hu with hu | rfl | rfl
   ·exact ha u hu
   ·simp[sg]
   ·simp[sg]
  ·simp[sg]
  ·rcases Fw hu with hu | rfl | rfl
   ·exact hb u hu
   ·simp[sg]
   ·simp[sg]
 | _,.call x .nil,o,hf,hs=>by
  intro u hu;simp only[Tr.toks,AaH,AbL,or_false] at hu
  rcases hu with rfl | rfl | rfl<;>simp[sg]
 | _,.call x (.snoc rs a),o,hf,hs=>by
  have hr:=num_of rs o hf.2.1 (λn hm=>hs n Aeo);have ha:=num_of a (o+rs.cnt) hf.2.2 (λn hm=>hs n Aeo);intro u hu;simp only[Tr.toks,AaH,AaC,AbL,or_false] at hu;rcases hu with rfl | rfl | hu | hu | rfl
  ·simp
  ·simp[sg]
  ·exact hr u hu
  ·exact ha u hu
  ·simp[sg]
 | _,.nil,o,_,_=>λu hu=>by cases hu
 | _,.snoc rs a,o,hf,hs=>by
  have hr:=num_of rs o hf.1 (λn hm=>hs n Aeo);have ha:=num_of a (o+rs.cnt) hf.2 (λn hm=>hs n Aeo);intro u hu;simp only[Tr.toks,AaC,AaH,AbL,or_false] at hu;rcases hu with hu | hu | rfl
  ·exact hr u hu
  ·exact ha u hu
  ·simp[sg]
theorem Tr.len_le:∀{b:Bool} (t:Tr b) (o:Nat),t.Fit→t.Num→(∀n∈t.flat o,n.text.length≤1000)→t.text.length+cond b 0 1≤4000*t.cnt
 | _,.leaf n,o,hf,hn,hs=>by
  have hx:=hs n (by simp[Tr.flat]);have hc:=(Tr.leaf n).can hf hn;obtain⟨h0,h1,hk,hp⟩:=hf;have ho:=EY hp;have hq:=KL n.text;rw[OA hp h0 h1];have htb:∀r:CH,BA r=true→(DB r).length≤30:=λr hm=>by
   have h2:=Pd hm;have h3:=(EE hm).1;rw[DB,if_pos hm];rcases h3 with h3 | h3
   ·rw[h3] at h2;simp at h2;omega
   ·have:=(FP h3).2.1;omega
  show _+1≤_;simp only[Tr.cnt];have:n.kind=1∨n.kind=2∨n.kind=3∨n.kind=4∨n.kind=5∨n.kind=6:=AdV
  rcases this with h | h | h | h | h | h<;>simp only[IR,h,if_true,if_false,Int.reduceEq,AaG,decide_eq_true_eq] at ho ⊢
  ·have:=Lib.itoa_length_le n.num AdV (hn ⟨1,[],n.num,Bh,0⟩ (by simp[Tr.toks,C2,h]));omega
  ·omega
  ·split<;>simp[Ee,Dt]
  ·simp[Jk]
  ·have:=htb _ ho;omega
  ·have:=htb _ ho.1;have:=htb _ ho.2.1
   simp only[B6,AaF,Abz];omega
 | _,.neg a,o,hf,hn,hs=>by
  have ha:a.text.length+1≤_:=len_le a o hf (λu hu=>hn u Aez) (λn hm=>hs n Aeo);show _+1≤_;rw[Rl];simp only[Tr.cnt,Jd]
  split<;>simp only[B6,AaF,Abz]<;>omega
 | _,.two k a b,o,hf,hn,hs=>by
  have ha:a.text.length+1≤_:=len_le a o hf.2.2.1 (λu hu=>hn u Aes) (λn hm=>hs n Aeo);have hb:b.text.length+1≤_:=len_le b (o+a.cnt) hf.2.2.2 (λu hu=>hn u Aer) (λn hm=>hs n Aeo);have a0:∀s∈Bp,s.length≤2:=AdZ
  have h2:=a0 _ (Ja hf.1 hf.2.1);show _+1≤_;rw[RZ];simp only[Tr.cnt,Jd]
  split<;>split<;>simp only[B6,AaF,Abz]<;>omega
 | _,.call x .nil,o,hf,hn,hs=>by
  have hx:x.length≤1000:=hs {kind:=7,text:=x,kids:=Tr.nil.kids o} (by simp[Tr.flat]);show _+1≤_;rw[Oj x o];simp only[Tr.cnt,Tr.row,LQ,B6,AaF,Abz]
  omega
 | _,.call x (.snoc rs a),o,hf,hn,hs=>by
  have hx:x.length≤1000:=hs {kind:=7,text:=x,kids:=(Tr.snoc rs a).kids o} (by simp[Tr.flat]);have hr:rs.text.length+0≤_:=len_le rs o hf.2.1 (λu hu=>hn u Aej) (λn hm=>hs n Aeo);have ha:a.text.length+1≤_:=len_le a (o+rs.cnt) hf.2.2 (λu hu=>hn u Aej) (λn hm=>hs n Aeo);have e:(Tr.call x (.snoc rs a)).text.length=x.length+1+(rs.text.length+(a.text.length+1)):=by
   rw[Oi];simp only[B6,AaF,Abz];omega
  show _+1≤_;rw[e];simp only[Tr.cnt]
  omega
 | _,.nil,o,_,_,_=>by show _+0≤_;simp[Tr.text,Tr.toks]
 | _,.snoc rs a,o,hf,hn,hs=>by
  have hr:rs.text.length+0≤_:=len_le rs o hf.1 (λu hu=>hn u Aej) (λn hm=>hs n Aeo);have ha:a.text.length+1≤_:=len_le a (o+rs.cnt) hf.2 (λu hu=>hn u Aej) (λn hm=>hs n Aeo);have hp:=a.cnt_pos;have e:(Tr.snoc rs a).text.length=rs.text.length+a.text.length+1:=by rw[OY];simp only[B6,AaF,Abz];omega
  show _+0≤_;rw[e];simp only[Tr.cnt];omega
def JK(l:List Ag):Prop:=∀t:Tr false,t.Fit→t.flat 0=l→t.Num
theorem XM{l:List Ag}(h:∀n∈l,n.num≤9223372036854775807):JK l:=λt hf e=>t.num_of 0 hf (by rw[e];exact h)
theorem PIs.num{s:List UInt8}{l:List Ag}{e:Int}(h:PIs s l e):JK l:=by
 intro t hf et;rcases h with ⟨h,rfl⟩ | ⟨_,rfl,_⟩
 ·obtain⟨_,_,_,u,hu,hn,e1,_⟩:=Ip h;have:=Tr.inj t u hf hu [] [] (by simpa using et.trans e1.symm) (.inl rfl);rw[this.1];exact hn
 ·have:=t.flat_len 0;rw[et] at this;have:=t.cnt_pos;simp at *;omega
end Go.Proofs.YtcjjcnecopnpcaaGreatDoor
