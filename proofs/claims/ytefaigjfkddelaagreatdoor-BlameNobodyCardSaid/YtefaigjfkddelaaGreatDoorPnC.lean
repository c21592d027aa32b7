/-
  Joined by program out of the texts TreeP ShowP ShowQ ShowR ShowS ShowT NodesM ShowU.
-/
import Derived.Test.YtefaigjfkddelaaGreatDoorPnB
import Derived.Test.YtefaigjfkddelaaGreatDoorPnE
namespace Go.Proofs.YtefaigjfkddelaaGreatDoor
open Tryz
open Go Go.E
def Cd(T:List As):Nat→Ef→B7→Option Io
 | 0,_,_=>none
 | n+1,.lev k,s=>match Cd T n (below k) s with
  | some (.ok s1 a)=>Cd T n (.loop k a) s1
  | some (.err e)=>some (.err e)
  | none=>none
 | n+1,.loop k a,s=>match GS T s k with
  | none=>some (.ok s a)
  | some i=>match Cd T n (below k) (Al s) with
   | some (.ok s1 b)=>Cd T n (.loop k s1.out.length) (B4 s1 {kind:=(Ay k).getD i 0,kids:=[(a:Int),(b:Int)]})
   | some (.err e)=>some (.err e)
   | none=>none
 | n+1,.unary,s=>if BR T s [45]=true then(if 12≤s.deep then some (.err 6) else match Cd T n .unary (Az (Al s)) with
   | some (.ok s1 a)=>some (.ok (B4 (BC s1) {kind:=8,kids:=[(a:Int)]}) s1.out.length)
   | some (.err e)=>some (.err e)
   | none=>none) else Cd T n .prim s
 | n+1,.prim,s=>
  if (Aa T s).kind=5 then
   if BR T s [40]=true then(if 12≤s.deep then some (.err 6) else match Cd T n (.lev 0) (Az (Al s)) with
    | some (.ok s1 a)=>if BR T s1 [41]=true then some (.ok (BC (Al s1)) a) else some (.err 5)
    | some (.err e)=>some (.err e)
    | none=>none)
   else some (.err 5)
  else if (Aa T s).kind=0 then some (.err 5)
  else if (Aa T s).kind=1 then some (.ok (B4 (Al s) {kind:=1,num:=(Aa T s).num}) s.out.length)
  else if (Aa T s).kind=2 then some (.ok (B4 (Al s) {kind:=2,text:=(Aa T s).text}) s.out.length)
  else if (Aa T s).kind=6 then some (.ok (B4 (Al s) {kind:=4}) s.out.length)
  else if (Aa T s).kind=4 then
   if BR T (Al s) [58]=true then
    if (Aa T (Al (Al s))).kind=4∧Bw (Aa T s).ref (Aa T (Al (Al s))).ref=true then some (.ok (B4 (Al (Al (Al s))) {kind:=6,ref:=(Aa T s).ref,to:=(Aa T (Al (Al s))).ref}) s.out.length)
    else some (.err 5)
   else some (.ok (B4 (Al s) {kind:=5,ref:=(Aa T s).ref}) s.out.length)
  else if (Aa T s).kind=3 then
   if (Aa T s).text=Db then some (.ok (B4 (Al s) {kind:=3,num:=1}) s.out.length)
   else if (Aa T s).text=CL then some (.ok (B4 (Al s) {kind:=3}) s.out.length)
   else if BR T (Al s) [40]=true then
    if 12≤s.deep then some (.err 6)
    else if BR T (Az (Al (Al s))) [41]=true then some (.ok (B4 (BC (Al (Az (Al (Al s))))) {kind:=7,text:=(Aa T s).text}) s.out.length)
    else Cd T n (.args (Aa T s).text []) (Az (Al (Al s)))
   else some (.err 5)
  else none
 | n+1,.args x ks,s=>match Cd T n (.lev 0) s with
  | some (.ok s1 a)=>if BR T s1 [44]=true then Cd T n (.args x (ks++[(a:Int)])) (Al s1)
   else if BR T s1 [41]=true then some (.ok (B4 (BC (Al s1)) {kind:=7,text:=x,kids:=ks++[(a:Int)]}) s1.out.length)
   else some (.err 5)
  | some (.err e)=>some (.err e)
  | none=>none
theorem Qs{T:List As}{s:B7}{x:List UInt8}(h:BR T s x=true):(Aa T s).kind=5:=by
 simp[BR] at h;exact h.1
theorem AaM{T:List As}{s:B7}{x:List UInt8}(h2:(Aa T s).text≠x):BR T s x=false:=by
 simp[BR,h2]
theorem PE.eval{T:List As}{m:Ef}{s:B7}{r:Io}(h:PE T m s r):∃N,∀n,N≤n→Cd T n m s=some r:=by
 induction h with
 | lev_err _ ih=>
  obtain⟨N,ih⟩:=ih;refine⟨N+1,λn hn=>?_⟩;obtain⟨n,rfl⟩:∃k,n=k+1:=⟨n - 1,by omega⟩
  simp only[Cd,ih n Aez]
 | lev_ok _ _ ih1 ih2=>
  obtain⟨N,ih1⟩:=ih1;obtain⟨M,ih2⟩:=ih2;refine⟨N+M+1,λn hn=>?_⟩;obtain⟨n,rfl⟩:∃k,n=k+1:=⟨n - 1,by omega⟩
  simp only[Cd,ih1 n Aez,ih2 n Aez]
 | loop_end h=>
  refine⟨1,λn hn=>?_⟩;obtain⟨n,rfl⟩:∃k,n=k+1:=⟨n - 1,by omega⟩
  simp only[Cd,h]
 | loop_err h _ ih=>
  obtain⟨N,ih⟩:=ih;refine⟨N+1,λn hn=>?_⟩;obtain⟨n,rfl⟩:∃k,n=k+1:=⟨n - 1,by omega⟩
  simp only[Cd,h,ih n Aez]
 | loop_go h _ _ ih1 ih2=>
  obtain⟨N,ih1⟩:=ih1;obtain⟨M,ih2⟩:=ih2;refine⟨N+M+1,λn hn=>?_⟩;obtain⟨n,rfl⟩:∃k,n=k+1:=⟨n - 1,by omega⟩
  simp only[Cd,h,ih1 n Aez,ih2 n Aez]
 | un_prim h _ ih=>
  obtain⟨N,ih⟩:=ih;refine⟨N+1,λn hn=>?_⟩;obtain⟨n,rfl⟩:∃k,n=k+1:=⟨n - 1,by omega⟩
  simp only[Cd,h,ih n Aez,Acx,if_false]
 | un_deep h hd=>
  refine⟨1,λn hn=>?_⟩;obtain⟨n,rfl⟩:∃k,n=k+1:=⟨n - 1,by omega⟩
  simp only[Cd,h,hd,if_true]
 | un_err h hd _ ih=>
  obtain⟨N,ih⟩:=ih;refine⟨N+1,λn hn=>?_⟩;obtain⟨n,rfl⟩:∃k,n=k+1:=⟨n - 1,by omega⟩
  simp only[Cd,h,ih n Aez,if_true,AdT.2 hd,if_false]
 | un_ok h hd _ ih=>
  obtain⟨N,ih⟩:=ih;refine⟨N+1,λn hn=>?_⟩;obtain⟨n,rfl⟩:∃k,n=k+1:=⟨n - 1,by omega⟩
  simp only[Cd,h,ih n Aez,if_true,AdT.2 hd,if_false]
 | pr_sign h h2=>
  refine⟨1,λn hn=>?_⟩;obtain⟨n,rfl⟩:∃k,n=k+1:=⟨n - 1,by omega⟩
  simp only[Cd,h,if_true,AaM h2,Acx,if_false]
 | pr_deep h hd=>
  refine⟨1,λn hn=>?_⟩;obtain⟨n,rfl⟩:∃k,n=k+1:=⟨n - 1,by omega⟩
  simp only[Cd,Qs h,h,hd,if_true]
 | pr_err h hd _ ih=>
  obtain⟨N,ih⟩:=ih;refine⟨N+1,λn hn=>?_⟩;obtain⟨n,rfl⟩:∃k,n=k+1:=⟨n - 1,by omega⟩
  simp only[Cd,Qs h,h,ih n Aez,if_true,AdT.2 hd,if_false]
 | pr_open h hd _ h2 ih=>
  obtain⟨N,ih⟩:=ih;refine⟨N+1,λn hn=>?_⟩;obtain⟨n,rfl⟩:∃k,n=k+1:=⟨n - 1,by omega⟩
  simp only[Cd,Qs h,h,ih n Aez,if_true,AdT.2 hd,if_false,h2,Acx]
 | pr_ok h hd _ h2 ih=>
  obtain⟨N,ih⟩:=ih;refine⟨N+1,λn hn=>?_⟩;obtain⟨n,rfl⟩:∃k,n=k+1:=⟨n - 1,by omega⟩
  simp only[Cd,Qs h,h,ih n Aez,if_true,AdT.2 hd,if_false,h2]
 | pr_end h | pr_num h | pr_text h | pr_dead h=>
  refine⟨1,λn hn=>?_⟩;obtain⟨n,rfl⟩:∃k,n=k+1:=⟨n - 1,by omega⟩
  simp[Cd,h]
 | pr_ref h h2 | pr_true h h2 | pr_false h h2=>
  refine⟨1,λn hn=>?_⟩;obtain⟨n,rfl⟩:∃k,n=k+1:=⟨n - 1,by omega⟩
  simp[Cd,h,h2,Db,CL]
 | pr_norange h h2 h3=>
  refine⟨1,λn hn=>?_⟩;obtain⟨n,rfl⟩:∃k,n=k+1:=⟨n - 1,by omega⟩;have h4:¬((Aa T (Al (Al _))).kind=4∧Bw (Aa T _).ref (Aa T (Al (Al _))).ref=true):=λhh=>by
   rcases h3 with h3 | h3
   ·exact h3 hh.1
   ·rw[hh.2] at h3;cases h3
  simp only[Cd,h,h2,if_neg h4]
  rfl
 | pr_range h h2 h3 h4=>
  refine⟨1,λn hn=>?_⟩;obtain⟨n,rfl⟩:∃k,n=k+1:=⟨n - 1,by omega⟩
  simp[Cd,h,h2,h3,h4]
 | pr_nocall h h2 h3 h4=>
  refine⟨1,λn hn=>?_⟩;obtain⟨n,rfl⟩:∃k,n=k+1:=⟨n - 1,by omega⟩
  simp[Cd,h,h2,h3,h4]
 | pr_calldeep h h2 h3 h4 h5=>
  refine⟨1,λn hn=>?_⟩;obtain⟨n,rfl⟩:∃k,n=k+1:=⟨n - 1,by omega⟩
  simp[Cd,h,h2,h3,h4,h5]
 | pr_call0 h h2 h3 h4 h5 h6=>
  refine⟨1,λn hn=>?_⟩;obtain⟨n,rfl⟩:∃k,n=k+1:=⟨n - 1,by omega⟩
  simp[Cd,h,h2,h3,h4,AdT.2 h5,h6]
 | pr_call h h2 h3 h4 h5 h6 _ ih=>
  obtain⟨N,ih⟩:=ih;refine⟨N+1,λn hn=>?_⟩;obtain⟨n,rfl⟩:∃k,n=k+1:=⟨n - 1,by omega⟩;have:=ih n Aez
  simp[Cd,h,h2,h3,h4,AdT.2 h5,h6,this]
 | ar_err _ ih=>
  obtain⟨N,ih⟩:=ih;refine⟨N+1,λn hn=>?_⟩;obtain⟨n,rfl⟩:∃k,n=k+1:=⟨n - 1,by omega⟩
  simp only[Cd,ih n Aez]
 | ar_go _ h _ ih1 ih2=>
  obtain⟨N,ih1⟩:=ih1;obtain⟨M,ih2⟩:=ih2;refine⟨N+M+1,λn hn=>?_⟩;obtain⟨n,rfl⟩:∃k,n=k+1:=⟨n - 1,by omega⟩
  simp only[Cd,ih1 n Aez,h,if_true,ih2 n Aez]
 | ar_open _ h h2 ih=>
  obtain⟨N,ih⟩:=ih;refine⟨N+1,λn hn=>?_⟩;obtain⟨n,rfl⟩:∃k,n=k+1:=⟨n - 1,by omega⟩
  simp only[Cd,ih n Aez,h,h2,Acx,if_false]
 | ar_end _ h h2 ih=>
  obtain⟨N,ih⟩:=ih;refine⟨N+1,λn hn=>?_⟩;obtain⟨n,rfl⟩:∃k,n=k+1:=⟨n - 1,by omega⟩;simp only[Cd,ih n Aez,h,h2,Acx,if_false,if_true]
theorem PE.det{T:List As}{m:Ef}{s:B7}{r r':Io}(h:PE T m s r)(h':PE T m s r'):r=r':=by
 obtain⟨N,h⟩:=h.eval;obtain⟨M,h'⟩:=h'.eval;have:=(h (N+M) Aez).symm.trans (h' (N+M) Aez)
 simpa using this
theorem Ea.det{T:List As}{o o':Except Int (List Ah)}(h:Ea T o)(h':Ea T o'):o=o':=by
 unfold Ea at h h'
 split at h<;>split at h'
 ·rcases h with h | ⟨rfl,s,a,h,hk⟩<;>rcases h' with h' | ⟨rfl,s',a',h',a0⟩
  ·have:=h.det h';simp only[Io.err.injEq] at this;rw[this]
  ·cases h.det h'
  ·cases h.det h'
  ·rfl
 ·obtain⟨s',a',h',a0,rfl⟩:=h';rcases h with h | ⟨rfl,s,a,h,hk⟩
  ·cases h.det h'
  ·have:=h.det h';simp only[Io.ok.injEq] at this;obtain⟨rfl,rfl⟩:=this;exact absurd a0 hk
 ·obtain⟨s,a,h,hk,rfl⟩:=h;rcases h' with h' | ⟨rfl,s',a',h',a0⟩
  ·cases h.det h'
  ·have:=h.det h';simp only[Io.ok.injEq] at this;obtain⟨rfl,rfl⟩:=this;exact absurd hk a0
 ·obtain⟨s,a,h,hk,rfl⟩:=h;obtain⟨s',a',h',a0,rfl⟩:=h';have:=h.det h';simp only[Io.ok.injEq] at this;rw[this.1]
structure Kh(t:As):Prop where
 num:t.kind=1→0≤t.num
 text:t.kind=2→Mv t.text=true
 word:t.kind=3→KY t.text=true∧Bd t.text=false
 ref:t.kind=4→AY t.ref=true
 len:t.text.length≤1000
theorem S8{c:UInt8}{l:List UInt8}(hc:¬c<32)(h:Mv l=true):Mv (c::l)=true:=by
 simp only[Mv,decide_eq_true_eq] at h ⊢;intro j hj
 cases j with
 | zero=>
  show 32≤(c.toNat:Int);have:¬c.toNat<32:=λhh=>hc (Ad9.2 (by simpa using hh))
  omega
 | succ j=>exact h j AeT
theorem MV:∀(l:List UInt8) {x:List UInt8×Nat},Bc l=some x→Mv x.1=true∧x.1.length≤l.length
 | [],x,h=>by simp[Bc] at h
 | [c],x,h=>by
  simp only[Bc] at h
  split at h
  ·simp only[Aa3] at h;subst h;exact⟨rfl,by simp⟩
  ·cases h
 | c::d::r,x,h=>by
  simp only[Bc] at h
  split at h
  ·split at h
   ·cases e:Bc r with
    | none=>rw[e] at h;cases h
    | some y=>
     rw[e] at h;simp only[AbZ,Aa3] at h;have:=MV r e;subst h;exact⟨S8 Ae2 this.1,by simp;omega⟩
   ·simp only[Aa3] at h;subst h;exact⟨rfl,by simp⟩
  ·split at h
   ·cases h
   ·rename_i hc
    cases e:Bc (d::r) with
    | none=>rw[e] at h;cases h
    | some y=>
     rw[e] at h;simp only[AbZ,Aa3] at h;have:=MV (d::r) e;subst h;exact⟨S8 hc this.1,by have:=this.2;simp at this ⊢;omega⟩
theorem U3{s:List UInt8}(h:Bd s=true):AY (D0 s)=true:=by
 simp only[Bd,Abf,decide_eq_true_eq,Adw,decide_eq_false_iff_not] at h
 cases hm:AY (D0 s) with
 | true=>rfl
 | false=>
  have:=h.1.2;rw[Ct,hm] at this;exact absurd this.symm h.2
theorem ZV{l:List UInt8}{t:As}{k:Nat}(hl:l.length≤1000)(h:Cz l=some (t,k)):Kh t:=by
 unfold Cz at h
 split at h
 ·rename_i h0;have a0:Aj Aq l≠[]:=by
   have:=(IL (p:=Aq) (l:=l) (by
    cases l with
    | nil=>cases h0
    | cons a b=>simp) h0).1
   exact AbY.1 this
  rw[K7 a0] at h
  split at h
  ·simp only[Aa3,Ach] at h;rw[←h.1];exact⟨λ_=>(Hu _ (λj hj=>by
   have hh:=H5 Aq l _ (AcF hj)
   simpa[Ab,AaE,Aak hj] using hh)).1,by simp,by simp,by simp,by simp⟩
  ·cases h
 ·split at h
  ·unfold EE at h
   cases e:Bc (l.drop 1) with
   | none=>rw[e] at h;cases h
   | some x=>
    rw[e] at h;simp only[AbZ,Aa3,Ach] at h;have:=MV _ e;rw[←h.1];exact⟨by simp,λ_=>this.1,by simp,by simp,by have:=this.2;simp at this ⊢;omega⟩
  ·split at h
   ·unfold Es at h;simp only at h;have a1:=EB DQ l
    split at h
    ·rename_i hr;simp only[Aa3,Ach] at h;rw[←h.1];exact⟨by simp,by simp,by simp,λ_=>U3 hr,by simp⟩
    ·rename_i hr
     split at h
     ·rename_i hf;simp only[Aa3,Ach] at h;rw[←h.1];exact⟨by simp,by simp,λ_=>⟨hf,by simpa using hr⟩,by simp,by show(Aj DQ l).length≤1000;omega⟩
     ·cases h
   ·unfold Fy at h
    split at h
    ·simp only[Aa3,Ach] at h;rw[←h.1];exact⟨by simp,by simp,by simp,by simp,by simp⟩
    ·cases e:Bn.find? λs=>Lib.hasPrefix l s with
     | none=>rw[e] at h;cases h
     | some x=>
      rw[e] at h;simp only[AbZ,Aa3,Ach] at h;have:=LL (Aes e);rw[←h.1];exact⟨by simp,by simp,by simp,by simp,by show x.length≤1000;omega⟩
theorem P9(a:Int):Kh ⟨0,[],0,A6,a⟩:=⟨by simp,by simp,by simp,by simp,by simp⟩
theorem Vs:∀(n:Nat) (l:List UInt8) (a:Nat) {out:List As},l.length≤n→l.length≤1000→Ge l a=some out→∀t∈out,Kh t
 | n,l,a,out,hn,hl,h=>by
  cases e:l.drop (Aj FI l).length with
  | nil=>
   rw[Fm e] at h;simp only[Aa3] at h;subst h;intro t ht;rw[Aaw.1 ht]
   exact P9 _
  | cons c r=>
   have hl':=congrArg List.length e;simp at hl'
   cases ho:Cz (c::r) with
   | none=>rw[Gf e Ae7 ho] at h;cases h
   | some x=>
    obtain⟨t,k⟩:=x;have hk:=Fs Ae7 ho;have hok:=ZV Ae0 ho;rw[G5 e Ae7 ho hk] at h
    cases hr:Ge ((c::r).drop k) (a+(Aj FI l).length+k) with
    | none=>rw[hr] at h;cases h
    | some y=>
     rw[hr] at h;simp only[AbZ,Aa3] at h;subst h
     match n with
     | 0=>omega
     | n+1=>
      have hd:((c::r).drop k).length=r.length+1 - k:=Ae7
      have:=Vs n ((c::r).drop k) _ AfW AfW hr;intro t' ht;rcases Acf.1 ht with rfl | ht
      ·exact⟨hok.num,hok.text,hok.word,hok.ref,hok.len⟩
      ·exact this t' ht
theorem ZM{s:List UInt8}{T:List As}(hs:s.length≤1000)(h:Ii s=some T):∀t∈T,Kh t:=Vs _ s 0 (Ab9 _) hs h
theorem Gu{T:List As}(h:∀t∈T,Kh t)(s:B7):Kh (Aa T s):=by
 unfold Aa;rcases Ac0 s.at_ T.length with hl | hl
 ·rw[AaE,Aak hl];exact h _ (AcF hl)
 ·rw[AaE,AbK hl];exact P9 0
theorem Ee:∀(l m:List Ah) (i:Nat) (st:List Int),Bv i st (l++m)=(Bv i st l).bind λst'=>Bv (i+l.length) st' m
 | [],m,i,st=>by simp[Bv]
 | n::t,m,i,st=>by
  rw[AcK,Bv,Bv]
  cases Dn i st n with
  | none=>rfl
  | some st'=>
   simp only;rw[Ee t m (i+1) st',AaT,show i+1+t.length=i+(t.length+1) by omega]
theorem IM{l:List Ah}{i:Nat}{st st' ks:List Int}{n:Ah}(h:Bv i st l=some (st'++ks))(hk:n.kids=ks)(hc:F3 n=n.kids.length)(hp:Ar n=true):Bv i st (l++[n])=some (st'++[((i+l.length:Nat):Int)]):=by
 subst hk;rw[Ee,h];simp only[AcJ,Bv,Dn];have e:(st'++n.kids).length - n.kids.length=st'.length:=Ae7
 rw[e,if_pos ⟨hc,by simp,by simp,hp⟩];simp
theorem CN{n:Ah}(h:FE n=true)(hb:(AC n).num=0∧(AC n).text=[]∧(AC n).ref=A6∧(AC n).to=A6):Ar n=true:=by
 simp[Ar,h,hb]
def Gx(s s1:B7)(ks:List Int)(a:Nat):Prop:=
 ∃new,s1.out=s.out++new∧DS new∧∀st,Bv s.out.length (st++ks) new=some (st++[(a:Int)])
theorem Gx.same{s s1 s2 s3:B7}{ks:List Int}{a:Nat}(h:Gx s s1 ks a)(e1:s2.out=s.out)(e2:s3.out=s1.out):Gx s2 s3 ks a:=by
 obtain⟨new,h1,h2,h3⟩:=h;exact⟨new,by rw[e2,e1,h1],h2,by rw[e1];exact h3⟩
theorem P5{l m:List Ah}(h:DS l)(k:DS m):DS (l++m):=λn hn=>by
 rcases AbB.1 hn with hn | hn
 ·exact h n hn
 ·exact k n hn
theorem Gx.nil(s s1:B7)(a:Nat)(e:s1.out=s.out):Gx s s1 [(a:Int)] a:=⟨[],by simp[e],(λn hn=>by cases hn),λst=>by simp[Bv]⟩
theorem Gx.trans{s s1 s2:B7}{ks:List Int}{a b:Nat}(h:Gx s s1 ks a)(k:Gx s1 s2 [(a:Int)] b):Gx s s2 ks b:=by
 obtain⟨n1,e1,p1,t1⟩:=h;obtain⟨n2,e2,p2,t2⟩:=k;refine⟨n1++n2,by rw[e2,e1,Abh],P5 p1 p2,λst=>?_⟩;rw[Ee,t1];simp only[AcJ];have:=t2 st;rw[e1,Aax] at this;exact this
theorem Gx.more{s s1 s2:B7}{ks ks1:List Int}{a b:Nat}(h:Gx s s1 ks a)(k:Gx s1 s2 (ks1++[(a:Int)]) b):Gx s s2 (ks1++ks) b:=by
 obtain⟨n1,e1,p1,t1⟩:=h;obtain⟨n2,e2,p2,t2⟩:=k;refine⟨n1++n2,by rw[e2,e1,Abh],P5 p1 p2,λst=>?_⟩;rw[Ee,←List.append_assoc,t1];simp only[AcJ];have:=t2 st;rw[e1,Aax] at this;rw[Abh];exact this
theorem Gx.node{s s2 s3:B7}{n:Ah}{ks:List Int}(hk:n.kids=ks)(hc:F3 n=n.kids.length)(hp:Ar n=true)(hs:n.text.length≤1000∧n.ref.sheet.length≤1000∧n.to.sheet.length≤1000)(e:s3.out=s.out++[n])(e2:s2.out=s.out):Gx s2 s3 ks s.out.length:=by
 refine⟨[n],by rw[e,e2],λx hx=>by rw[Aaw.1 hx];exact hs,λst=>?_⟩;have:=IM (l:=[]) (i:=s2.out.length) (st:=st++ks) (st':=st) (ks:=ks) rfl hk hc hp
 simpa[e2] using this
theorem GE{x:C3}(h:AY x=true):x.sheet.length≤1000:=by
 simp only[AY,Abf,AcU,decide_eq_true_eq] at h;rcases h.1.1.1.1 with h | h
 ·rw[h];simp
 ·simp only[D7,Abf,decide_eq_true_eq] at h;omega
theorem Bf:A6.sheet.length≤1000:=by decide
def Abl(m:Ef)(s:B7):Io→Prop
 | .err _=>True
 | .ok s1 b=>match m with
  | .loop _ a=>Gx s s1 [(a:Int)] b
  | .args x ks=>CB x=true→Gx s s1 ks b
  | _=>Gx s s1 [] b
theorem Ox{n:Nat}{s s1:B7}{a:Nat}(h:Abl (below n) s (.ok s1 a)):Gx s s1 [] a:=by
 unfold below at h
 split at h<;>exact h
theorem W3{T:List As}{s:B7}{n i:Nat}(h:GS T s n=some i):9≤(Ay n).getD i 0∧(Ay n).getD i 0≤19:=by
 unfold GS at h
 split at h
 ·have hi:=(Ac9.1 h).1;have e:(AD n).length=(Ay n).length:=by
   unfold AD Ay
   match n with
   | 0=>rfl
   | 1=>rfl
   | 2=>rfl
   | _+3=>rfl
  have a0:∀z∈Ay n,9≤z∧z≤19:=by
   unfold Ay
   match n with
   | 0=>decide
   | 1=>decide
   | 2=>decide
   | _+3=>
    show ∀z∈[18,19],(9:Int)≤z∧z≤19
    decide
  rw[AaE,Aak Aez];exact a0 _ (AcF _)
 ·cases h
theorem OI{k:Int}(h0:9≤k)(h1:k≤19)(a b:Int):F3 {kind:=k,kids:=[a,b]}=2∧Ar {kind:=k,kids:=[a,b]}=true:=by
 have hc:BJ k=2:=by
  unfold BJ;rw[if_neg Aez,if_neg Aez,if_neg Aez,if_pos Aez]
 constructor
 ·simp[F3,hc]
 ·have hb:AC {kind:=k,kids:=[a,b]}={kind:=k,kids:=[a,b]}:=by
   unfold AC;rw[if_neg (show ¬k=1 by omega),if_neg (show ¬k=3 by omega),if_neg (show ¬k=2 by omega),if_neg (show ¬k=7 by omega),if_neg (show ¬k=5 by omega),if_neg (show ¬k=6 by omega)]
  have ho:FE {kind:=k,kids:=[a,b]}=true:=by
   unfold FE;rw[if_neg (show ¬k=1 by omega),if_neg (show ¬k=3 by omega),if_neg (show ¬k=2 by omega),if_neg (show ¬k=7 by omega),if_neg (show ¬k=5 by omega),if_neg (show ¬k=6 by omega)]
  exact CN ho (by rw[hb];exact⟨rfl,rfl,rfl,rfl⟩)
theorem IX{x:List UInt8}(h:CB x=true)(ks:List Int):F3 {kind:=7,text:=x,kids:=ks}=ks.length∧Ar {kind:=7,text:=x,kids:=ks}=true:=by
 refine⟨if_pos rfl,CN h ⟨rfl,rfl,rfl,rfl⟩⟩
theorem Oa{x:List UInt8}(h:CB x=true):x.length≤1000:=by
 simp only[CB,KY,Abf,decide_eq_true_eq] at h;omega
theorem PG{T:List As}(hT:∀t∈T,Kh t){s:B7}(h:(Aa T s).kind=3)(h1:(Aa T s).text≠Db)(h2:(Aa T s).text≠CL):CB (Aa T s).text=true:=by
 have:=(Gu hT s).word h;simp[CB,this,h1,h2]
theorem PE.puts{T:List As}(hT:∀t∈T,Kh t){m:Ef}{s:B7}{r:Io}(h:PE T m s r):Abl m s r:=by
 induction h with
 | lev_err _ _=>trivial
 | @lev_ok n s s1 a r _ _ ih1 ih2=>
  cases r with
  | err e=>trivial
  | ok s2 b=>exact(Ox ih1).trans ih2
 | loop_end _=>exact Gx.nil _ _ _ rfl
 | loop_err _ _ _=>trivial
 | @loop_go n s a i s1 b r hi _ _ ih1 ih2=>
  cases r with
  | err e=>trivial
  | ok s2 c=>
   obtain⟨k0,k1⟩:=W3 hi;have hn:=OI k0 k1 (a:Int) (b:Int);have hp:Gx s1 (B4 s1 {kind:=(Ay n).getD i 0,kids:=[(a:Int),(b:Int)]}) ([(a:Int)]++[(b:Int)]) s1.out.length:=Gx.node (s:=s1) rfl hn.1 hn.2 ⟨by simp,Bf,Bf⟩ rfl rfl;have h1:Gx s s1 [] b:=(Ox ih1).same rfl rfl;have:=h1.more hp
   exact this.trans ih2
 | @un_prim s r _ _ ih=>
  cases r with
  | err e=>trivial
  | ok s2 b=>exact ih
 | un_deep _ _=>trivial
 | un_err _ _ _ _=>trivial
 | @un_ok s s1 a _ _ _ ih=>
  have h1:Gx s s1 [] a:=Gx.same ih rfl rfl;have hp:Gx s1 (B4 (BC s1) {kind:=8,kids:=[(a:Int)]}) ([]++[(a:Int)]) s1.out.length:=Gx.node (s:=s1) rfl rfl rfl ⟨by simp,Bf,Bf⟩ rfl rfl
  exact h1.more hp
 | pr_sign _ _=>trivial
 | pr_deep _ _=>trivial
 | pr_err _ _ _ _=>trivial
 | pr_open _ _ _ _ _=>trivial
 | pr_ok _ _ _ _ ih=>exact Gx.same ih rfl rfl
 | pr_end _=>trivial
 | @pr_num s h=>
  have h0:=(Gu hT s).num h
  exact Gx.node (s:=s) rfl rfl (CN (by show decide (0≤(Aa T s).num)=true;simpa using h0) ⟨rfl,rfl,rfl,rfl⟩) ⟨by simp,Bf,Bf⟩ rfl rfl
 | @pr_text s h=>
  exact Gx.node (s:=s) rfl rfl (CN (by show Mv (Aa T s).text=true;exact(Gu hT s).text h) ⟨rfl,rfl,rfl,rfl⟩) ⟨(Gu hT s).len,Bf,Bf⟩ rfl rfl
 | @pr_dead s h=>exact Gx.node (s:=s) rfl rfl rfl ⟨by simp,Bf,Bf⟩ rfl rfl
 | @pr_ref s h _=>
  have h0:=(Gu hT s).ref h
  exact Gx.node (s:=s) rfl rfl (CN (by show AY (Aa T s).ref=true;exact h0) ⟨rfl,rfl,rfl,rfl⟩) ⟨by simp,GE h0,Bf⟩ rfl rfl
 | @pr_range s h _ h' hr=>
  have h0:=(Gu hT s).ref h;have h1:=(Gu hT (Al (Al s))).ref h'
  exact Gx.node (s:=s) rfl rfl (CN (by show(AY (Aa T s).ref&&(AY (Aa T (Al (Al s))).ref&&Bw (Aa T s).ref (Aa T (Al (Al s))).ref))=true;rw[h0,h1,hr];rfl) ⟨rfl,rfl,rfl,rfl⟩) ⟨by simp,GE h0,GE h1⟩ rfl rfl
 | pr_norange _ _ _=>trivial
 | @pr_true s _ _=>exact Gx.node (s:=s) rfl rfl rfl ⟨by simp,Bf,Bf⟩ rfl rfl
 | @pr_false s _ _=>exact Gx.node (s:=s) rfl rfl rfl ⟨by simp,Bf,Bf⟩ rfl rfl
 | pr_nocall _ _ _ _=>trivial
 | pr_calldeep _ _ _ _ _=>trivial
 | @pr_call0 s h h1 h2 _ _ _=>
  have hn:=PG hT h h1 h2;have hc:=IX hn []
  exact Gx.node (s:=s) rfl hc.1 hc.2 ⟨Oa hn,Bf,Bf⟩ rfl rfl
 | @pr_call s r h h1 h2 _ _ _ _ ih=>
  cases r with
  | err e=>trivial
  | ok s2 b=>exact Gx.same (ih (PG hT h h1 h2)) rfl rfl
 | ar_err _ _=>trivial
 | @ar_go x ks s s1 a r _ _ _ ih1 ih2=>
  cases r with
  | err e=>trivial
  | ok s2 b=>
   intro hn;have h2:Gx s1 s2 (ks++[(a:Int)]) b:=Gx.same (ih2 hn) rfl rfl;have h1:Gx s s1 [] a:=ih1;have:=h1.more h2
   rwa [Acq] at this
 | ar_open _ _ _ _=>trivial
 | @ar_end x ks s s1 a _ _ _ ih=>
  intro hn;have hc:=IX hn (ks++[(a:Int)]);have hp:Gx s1 (B4 (BC (Al s1)) {kind:=7,text:=x,kids:=ks++[(a:Int)]}) (ks++[(a:Int)]) s1.out.length:=Gx.node (s:=s1) rfl hc.1 hc.2 ⟨Oa hn,Bf,Bf⟩ rfl rfl;have h1:Gx s s1 [] a:=ih;have:=h1.more hp
  rwa [Acq] at this
theorem Ea.tree{T:List As}{l:List Ah}(hT:∀t∈T,Kh t)(h:Ea T (.ok l)):BV l=true∧DS l:=by
 obtain⟨s,a,hp,_,he⟩:=h;obtain⟨new,h1,h2,h3⟩:Gx ⟨0,[],0⟩ s [] a:=hp.puts hT;have:l=new:=by rw[←he,h1];rfl
 subst this;refine⟨?_,h2⟩;have h4:Bv 0 [] l=some [(a:Int)]:=h3 [];rw[BV,h4];rfl
def K8:List (List UInt8):=[[61],[60,62],[60],[60,61],[62],[62,61],[38],[43],[45],[42],[47]]
theorem ZW{u:Nat}(hu:u≤9223372036854775807){R:List UInt8}(hR:R=[]∨Aq (Ab R 0)=false):Cz (Lib.decDigits u++R)=some (⟨1,[],u,A6,0⟩,(Lib.decDigits u).length):=by
 obtain⟨h1,h2,h3,h4,h5⟩:=FN u u (Ab9 _);have h0:Aq (Ab (Lib.decDigits u++R) 0)=true:=by
  rw[ES h2];obtain⟨c,hm,e⟩:=DT (AbY.2 h2);rw[e];exact h1 c hm
 have hs:Aj Aq (Lib.decDigits u++R)=Lib.decDigits u:=by
  rw[Fz Aq _ R h1];have:Aj Aq R=[]:=by
   rcases hR with rfl | h
   ·rfl
   ·cases R with
    | nil=>rfl
    | cons c r=>
     have:Aq (c.toNat:Int)=false:=h;simp[Aj,this]
  rw[this,Acq]
 have hc:((u:Nat):Int)≤9223372036854775807∧(Ab (Lib.decDigits u) 0≠48∨(Lib.decDigits u).length=1):=by
  refine⟨by omega,?_⟩;by_cases hz:u=0
  ·exact .inr (h5 hz)
  ·exact .inl (h4 hz)
 rw[Cz,h0,if_pos rfl,K7 (by rw[hs];exact h2),hs,h3,if_pos hc]
theorem W7{X R:List UInt8}{t:As}{a:Nat}(hX:X≠[])(hb:Ab X 0≠32)(h1:Cz (X++R)=some (t,X.length)):Ge (X++R) a=(Ge R (a+X.length)).map ({t with at_:=(a:Int)}::·):=by
 have hs:Aj FI (X++R)=[]:=by
  cases X with
  | nil=>exact absurd rfl hX
  | cons c r=>
   have:FI (c.toNat:Int)=false:=by simp[FI];exact hb
   simp[Aj,this]
 have:=G5 (l:=X++R) (l':=X++R) (a:=a) (t:=t) (k:=X.length) (by rw[hs];rfl) (by simp[hX]) h1 (AbY.2 hX);rw[this,hs];simp
theorem Nz(u:Nat):Aq (Ab (Lib.decDigits u) 0)=true∧Lib.decDigits u≠[]∧Ab (Lib.decDigits u) 0≠32:=by
 obtain⟨h1,h2,_⟩:=FN u u (Ab9 _);obtain⟨c,hm,e⟩:=DT (AbY.2 h2);exact⟨by rw[e];exact h1 c hm,h2,XW h2 h1⟩
inductive Tr:Bool→Type where
 | leaf (n:Ah):Tr false
 | neg (a:Tr false):Tr false
 | two (k:Int) (a b:Tr false):Tr false
 | call (x:List UInt8) (ks:Tr true):Tr false
 | nil:Tr true
 | snoc (ks:Tr true) (a:Tr false):Tr true
def Tr.cnt:{b:Bool}→Tr b→Nat
 | _,.leaf _=>1
 | _,.neg a=>a.cnt+1
 | _,.two _ a b=>a.cnt+b.cnt+1
 | _,.call _ ks=>ks.cnt+1
 | _,.nil=>0
 | _,.snoc ks a=>ks.cnt+a.cnt
def Tr.kids(o:Nat):{b:Bool}→Tr b→List Int
 | _,.snoc ks a=>ks.kids o++[((o+ks.cnt+a.cnt - 1:Nat):Int)]
 | _,_=>[]
def Tr.flat:(o:Nat)→{b:Bool}→Tr b→List Ah
 | _,_,.leaf n=>[n]
 | o,_,.neg a=>a.flat o++[{kind:=8,kids:=[((o+a.cnt - 1:Nat):Int)]}]
 | o,_,.two k a b=>a.flat o++b.flat (o+a.cnt)++[{kind:=k,kids:=[((o+a.cnt - 1:Nat):Int),((o+a.cnt+b.cnt - 1:Nat):Int)]}]
 | o,_,.call x ks=>ks.flat o++[{kind:=7,text:=x,kids:=ks.kids o}]
 | _,_,.nil=>[]
 | o,_,.snoc ks a=>ks.flat o++a.flat (o+ks.cnt)
def Tr.Fit:{b:Bool}→Tr b→Prop
 | _,.leaf n=>1≤n.kind∧n.kind≤6∧n.kids=[]∧Ar n=true
 | _,.neg a=>a.Fit
 | _,.two k a b=>9≤k∧k≤19∧a.Fit∧b.Fit
 | _,.call x ks=>CB x=true∧ks.Fit
 | _,.nil=>True
 | _,.snoc ks a=>ks.Fit∧a.Fit
theorem Tr.flat_len:∀{b:Bool} (t:Tr b) (o:Nat),(t.flat o).length=t.cnt
 | _,.leaf n,o=>rfl
 | _,.neg a,o=>by simp[Tr.flat,Tr.cnt,flat_len a]
 | _,.two k a b,o=>by simp[Tr.flat,Tr.cnt,flat_len a,flat_len b];omega
 | _,.call x ks,o=>by simp[Tr.flat,Tr.cnt,flat_len ks]
 | _,.nil,o=>rfl
 | _,.snoc ks a,o=>by simp[Tr.flat,Tr.cnt,flat_len ks,flat_len a]
theorem Tr.snoc_form(ts:Tr true):ts=.nil∨∃ks a,ts=.snoc ks a:=by
 cases ts with
 | nil=>exact .inl rfl
 | snoc ks a=>exact .inr ⟨ks,a,rfl⟩
theorem Tr.split(k:Nat):∀(ts:Tr true),ts.Fit→k≤(ts.kids 0).length→∃ts1 ks:Tr true,ts.flat 0=ts1.flat 0++ks.flat ts1.cnt∧ts.kids 0=ts1.kids 0++ks.kids ts1.cnt∧(ks.kids ts1.cnt).length=k∧ts.cnt=ts1.cnt+ks.cnt∧ts1.Fit∧ks.Fit:=by
 induction k with
 | zero=>exact λts hf _=>⟨ts,.nil,by simp[Tr.flat],by simp[Tr.kids],rfl,rfl,hf,trivial⟩
 | succ k ih=>
  intro ts hf hk;rcases Tr.snoc_form ts with rfl | ⟨rs,a,rfl⟩
  ·simp[Tr.kids] at hk
  ·simp only[Tr.kids,Aax,Adg] at hk;obtain⟨ts1,ks,h1,h2,h3,h4,h5,h6⟩:=ih rs hf.1 Aez;refine⟨ts1,.snoc ks a,?_,?_,?_,?_,h5,h6,hf.2⟩
   ·simp only[Tr.flat,h1,h4,Abh,AbW]
   ·simp only[Tr.kids,h2,h4,Abh,AbW]
   ·simp only[Tr.kids,Aax,h3,Adg]
   ·simp only[Tr.cnt,h4,Ady]
theorem W1{n:Ah}(h:F3 n=n.kids.length):(1≤n.kind∧n.kind≤6∧n.kids=[])∨n.kind=7∨(n.kind=8∧n.kids.length=1)∨(9≤n.kind∧n.kind≤19∧n.kids.length=2):=by
 unfold F3 BJ at h;by_cases h1:n.kind<1∨19<n.kind
 ·rw[if_pos h1,if_neg Ae2] at h;omega
 rw[if_neg h1] at h;by_cases h2:n.kind=7
 ·exact .inr (.inl h2)
 rw[if_neg h2] at h;by_cases h3:n.kind=8
 ·rw[if_pos h3,if_neg Ae2] at h;exact .inr (.inr (.inl ⟨h3,by omega⟩))
 rw[if_neg h3] at h;by_cases h4:8<n.kind
 ·rw[if_pos h4,if_neg Ae2] at h;exact .inr (.inr (.inr ⟨by omega,by omega,by omega⟩))
 ·rw[if_neg h4,if_neg Ae2] at h;exact .inl ⟨by omega,by omega,AbX Aez⟩
theorem Pb{n:Ah}(hp:Ar n=true)(hk:8≤n.kind):n={kind:=n.kind,kids:=n.kids}:=by
 simp only[Ar,Abf,decide_eq_true_eq] at hp;have hb:AC n=n:=by
  unfold AC;rw[if_neg Aez,if_neg Aez,if_neg Aez,if_neg Aez,if_neg Aez,if_neg Aez]
 rw[hb] at hp;obtain⟨_,h1,h2,h3,h4⟩:=hp;cases n;simp_all
theorem Wh{n:Ah}(hp:Ar n=true)(hk:n.kind=7):n={kind:=7,text:=n.text,kids:=n.kids}∧CB n.text=true:=by
 simp only[Ar,Abf,decide_eq_true_eq] at hp;have hb:AC n={n with text:=[]}:=by
  unfold AC;rw[if_neg Aez,if_neg Aez,if_neg Aez,if_pos hk]
 have ho:FE n=CB n.text:=by
  unfold FE;rw[if_neg Aez,if_neg Aez,if_neg Aez,if_pos hk]
 rw[hb,ho] at hp;obtain⟨h0,h1,h2,h3,h4⟩:=hp;refine⟨?_,h0⟩;cases n;simp_all
theorem Aah{α:Type}{p:List α→Prop}(h0:p [])(h1:∀l a,p l→p (l++[a])):∀l,p l:=by
 intro l;have:∀(n:Nat) (l:List α),l.length=n→p l:=by
  intro n
  induction n with
  | zero=>intro l hl;rw[AbX hl];exact h0
  | succ n ih=>
   intro l hl;have a0:l≠[]:=by intro e;subst e;simp at hl
   rw[←List.dropLast_concat_getLast a0];exact h1 _ _ (ih _ (by simp[hl]))
 exact this _ l rfl
theorem Ws:∀(l:List Ah) (st:List Int),Bv 0 [] l=some st→∃ts:Tr true,ts.flat 0=l∧ts.kids 0=st∧ts.Fit:=by
 refine Aah ?_ ?_
 ·intro st h;simp only[Bv,Aa3] at h;exact⟨.nil,rfl,h,trivial⟩
 ·intro l n ih st h;rw[Ee] at h
  cases e:Bv 0 [] l with
  | none=>rw[e] at h;cases h
  | some s0=>
   rw[e] at h;simp only[AcJ,Bv,AbW] at h;obtain⟨ts,hf,hk,a8⟩:=ih s0 e
   cases e2:Dn l.length s0 n with
   | none=>rw[e2] at h;cases h
   | some s1=>
    rw[e2] at h;simp only[Aa3] at h;subst h;unfold Dn at e2
    split at e2
    ·rename_i hc;simp only[Aa3] at e2;obtain⟨c1,c2,c3,c4⟩:=hc;obtain⟨ts1,ks,a1,a2,a3,a4,a5,a6⟩:=ts.split n.kids.length a8 (by rw[hk];exact c2);have a0:ks.kids ts1.cnt=n.kids:=by
      rw[←c3,←hk,a2];have:(ts1.kids 0++ks.kids ts1.cnt).length - n.kids.length=(ts1.kids 0).length:=by rw[Aax,a3];omega
      rw[this,Aeu];rfl
     have a7:s0.take (s0.length - n.kids.length)=ts1.kids 0:=by
      rw[←hk,a2];have:(ts1.kids 0++ks.kids ts1.cnt).length - n.kids.length=(ts1.kids 0).length:=by rw[Aax,a3];omega
      rw[this,List.take_left'];rfl
     have a9:l.length=ts1.cnt+ks.cnt:=by rw[←hf,Tr.flat_len,a4]
     have key:∀a:Tr false,a.Fit→a.cnt=ks.cnt+1→a.flat ts1.cnt=ks.flat ts1.cnt++[n]→∃ts:Tr true,ts.flat 0=l++[n]∧ts.kids 0=s1∧ts.Fit:=by
      intro a h1 h2 h3;refine⟨.snoc ts1 a,?_,?_,a5,h1⟩
      ·simp only[Tr.flat,AbW,h3];rw[←List.append_assoc,←a1,hf]
      ·simp only[Tr.kids,AbW];rw[←e2,a7,a9,h2];rfl
     rcases W1 c1 with ⟨b1,b2,b3⟩ | b1 | ⟨b1,b2⟩ | ⟨b1,b2,b3⟩
     ·have aa:ks.kids ts1.cnt=[]:=by rw[a0,b3]
      rcases ks.snoc_form with rfl | ⟨rs,a,rfl⟩
      ·exact key (.leaf n) ⟨b1,b2,b3,c4⟩ rfl rfl
      ·simp[Tr.kids] at aa
     ·obtain⟨d1,d2⟩:=Wh c4 b1;refine key (.call n.text ks) ⟨d2,a6⟩ rfl ?_;simp only[Tr.flat,a0];rw[←d1]
     ·rcases ks.snoc_form with rfl | ⟨rs,a,rfl⟩
      ·simp[Tr.kids] at a3;omega
      ·rcases rs.snoc_form with rfl | ⟨rs',a',rfl⟩
       ·refine key (.neg a) a6.2 (by simp[Tr.cnt]) ?_;have hn:=Pb c4 Aez;rw[←a0,b1] at hn;simp only[Tr.flat,Tr.kids,Tr.cnt,Acb,Adb] at hn ⊢;rw[hn]
       ·simp[Tr.kids] at a3;omega
     ·rcases ks.snoc_form with rfl | ⟨rs,b,rfl⟩
      ·simp[Tr.kids] at a3;omega
      ·rcases rs.snoc_form with rfl | ⟨rs',a,rfl⟩
       ·simp[Tr.kids] at a3;omega
       ·rcases rs'.snoc_form with rfl | ⟨rs'',a',rfl⟩
        ·refine key (.two n.kind a b) ⟨b1,b2,a6.1.2,a6.2⟩ (by simp[Tr.cnt]) ?_;have hn:=Pb c4 Aez;rw[←a0] at hn;simp only[Tr.flat,Tr.kids,Tr.cnt,Acb,AbW,Adb,AcK] at hn ⊢;rw[←hn]
        ·simp[Tr.kids] at a3;omega
    ·cases e2
theorem Jt{l:List Ah}(h:BV l=true):∃t:Tr false,t.flat 0=l∧t.Fit:=by
 unfold BV at h
 split at h
 ·rename_i st e;obtain⟨ts,h1,h2,h3⟩:=Ws l st e;have h:=of_decide_eq_true h;rcases ts.snoc_form with rfl | ⟨rs,a,rfl⟩
  ·rw[←h2] at h;simp[Tr.kids] at h
  ·rcases rs.snoc_form with rfl | ⟨rs',a',rfl⟩
   ·exact⟨a,by simpa[Tr.flat,Tr.cnt] using h1,h3.2⟩
   ·rw[←h2] at h;simp[Tr.kids] at h
 ·cases h
def Ed(s:List UInt8):List UInt8:=34::(s.flatMap (λc=>if c=34 then[34,34] else[c])++[34])
def Ci(t:As):List UInt8:=if t.kind=1 then Lib.itoa t.num else if t.kind=2 then Ed t.text else if t.kind=4 then BN t.ref else if t.kind=6 then Eh else t.text
def nA(t:As):As:={t with at_:=0}
def Rz:As:=⟨0,[],0,A6,0⟩
def sg(s:List UInt8):As:=⟨5,s,0,A6,0⟩
theorem Du(s:List UInt8):Ci (sg s)=s:=rfl
theorem Jr(t:As):Ci (nA t)=Ci t:=rfl
inductive Gb:As→Prop
 | num {z:Int}:0≤z→z≤9223372036854775807→Gb ⟨1,[],z,A6,0⟩
 | text {s:List UInt8}:Mv s=true→Gb ⟨2,s,0,A6,0⟩
 | word {s:List UInt8}:KY s=true→Bd s=false→Gb ⟨3,s,0,A6,0⟩
 | ref {r:C3}:AY r=true→Gb ⟨4,[],0,r,0⟩
 | sign {s:List UInt8}:s∈Bn→Gb (sg s)
 | dead:Gb ⟨6,[],0,A6,0⟩
def Oj(t:As)(R:List UInt8):Prop:=
 (t.kind=1→Aq (Ab R 0)=false)∧(t.kind=2→Ab R 0≠34)∧(t.kind=3∨t.kind=4→DQ (Ab R 0)=false)∧(t.kind=5→t.text=[60]∨t.text=[62]→Ab R 0≠61∧Ab R 0≠62)
theorem ZF{R:List UInt8}(h:Ab R 0≠34):R.head?≠some 34:=by
 cases R with
 | nil=>simp
 | cons c r=>
  simp only[List.head?_cons,ne_eq,Aa3];rintro rfl;exact h rfl
theorem P8{p:Int→Bool}{R:List UInt8}(h:p (Ab R 0)=false):Aj p R=[]:=by
 cases R with
 | nil=>rfl
 | cons c r=>
  have:p (c.toNat:Int)=false:=h;simp[Aj,this]
theorem SX:∀(s R:List UInt8),Mv s=true→R.head?≠some 34→Bc (s.flatMap (λc=>if c=34 then[34,34] else[c])++34::R)=some (s,(s.flatMap (λc=>if c=34 then[34,34] else[c])).length+1)
 | [],R,_,h=>YR h
 | c::s,R,hp,h=>by
  have hp':Mv s=true:=by
   simp only[Mv,decide_eq_true_eq] at hp ⊢;intro j hj;exact hp (j+1) AeT
  have hc:¬c<32:=by
   simp only[Mv,decide_eq_true_eq] at hp;have h0:32≤(c.toNat:Int):=hp 0 Ae7;intro hh;have:=Ad9.1 hh;simp at this;omega
  have ih:=SX s R hp' h;by_cases a0:c=34
  ·subst a0;simp only[Ac7,if_true,AcK,Acb];rw[VF,ih];simp
  ·simp only[Ac7,if_neg a0,AcK,Acb];rw[YQ a0 hc,ih];simp
theorem WM{s R:List UInt8}(hp:Mv s=true)(h:Ab R 0≠34):Cz (Ed s++R)=some (⟨2,s,0,A6,0⟩,(Ed s).length):=by
 have hb:Ab (Ed s++R) 0=34:=rfl;rw[Cz,hb,show Aq 34=false from rfl,if_neg Ae7,if_pos rfl,EE];have e:(Ed s++R).drop 1=s.flatMap (λc=>if c=34 then[34,34] else[c])++34::R:=by simp[Ed]
 rw[e,SX s R hp (ZF h)];simp[Ed]
theorem O3{r:C3}(h:AY r=true):(∀c∈BN r,DQ (c.toNat:Int)=true)∧GM (Ab (BN r) 0)=true:=by
 obtain⟨hs,c0,c1,r0,r1⟩:=DE h;obtain⟨hc,a3,_⟩:=Nu c0 c1;obtain⟨hd,a5,_,_⟩:=G3 (z:=r.row+1) Aez Aez;have a0:∀b c,c∈D5 b→c=36:=λb c hm=>by cases b<;>simp[D5] at hm;exact hm
 have wcap:∀z,Bb z=true→GM z=true:=λz hz=>by simp[GM,hz]
 have wld:∀z,T8 z=true→DQ z=true:=λz hz=>by
  simp only[T8,F4,AcU] at hz;simp only[DQ,GM,AcU];rcases hz with (hz | hz) | hz
  ·exact .inl (.inl (.inl (.inl hz)))
  ·exact .inl (.inl (.inl (.inr hz)))
  ·exact .inl (.inr hz)
 refine⟨?_,?_⟩
 ·intro c hm;simp only[BN,AbB] at hm;rcases hm with hm | ((hm | hm) | hm) | hm
  ·by_cases a1:r.sheet=[]
   ·simp[a1] at hm
   ·simp only[a1,if_false,AbB,Aaw] at hm;rcases hm with hm | hm
    ·obtain⟨_,_,a4⟩:=EW (hs.resolve_left a1);obtain⟨j,hj,rfl⟩:=AdE.1 hm;have:=a4 j hj;rw[BA hj] at this;exact wld _ this
    ·subst hm;rfl
  ·rw[a0 _ c hm];rfl
  ·have:=wcap _ (hc c hm);simp[DQ,this]
  ·rw[a0 _ c hm];rfl
  ·have:=hd c hm;simp[DQ,this]
 ·have a2:∀x,GM (Ab (D5 r.ac++E2 r.col++x) 0)=true:=λx=>by
   cases ha:r.ac with
   | true=>rfl
   | false=>
    have:D5 false++E2 r.col++x=E2 r.col++x:=rfl;rw[this,BE a3];obtain⟨c,hm,e⟩:=DT a3;rw[e];exact wcap _ (hc c hm)
  by_cases a1:r.sheet=[]
  ·have:=a2 (D5 r.ar++Lib.itoa (r.row+1))
   simpa[BN,a1] using this
  ·have hn:=hs.resolve_left a1;have hl:F4 (Ab r.sheet 0)=true:=by
    simp only[D7,Abf,decide_eq_true_eq] at hn;exact hn.1.2
   have:Ab (BN r) 0=Ab r.sheet 0:=by
    simp only[BN,a1,if_false,Abh];exact BE (AbY.2 a1)
   rw[this,PM,hl];rfl
theorem Lx{z:Int}(h:GM z=true):Aq z=false∧z≠34∧z≠32∧z≠35∧z≠61∧z≠62:=by
 simp only[GM,Bb,AcU,Abf,decide_eq_true_eq] at h;refine⟨?_,by omega,by omega,by omega,by omega,by omega⟩;simp[Aq];omega
theorem N5{s:List UInt8}(h:KY s=true):s≠[]∧s.length≤12∧Bb (Ab s 0)=true∧∀c∈s,DQ (c.toNat:Int)=true:=by
 simp only[KY,Abf,decide_eq_true_eq] at h;obtain⟨⟨⟨h0,h1⟩,h2⟩,h3⟩:=h;refine⟨h0,h1,h2,λc hc=>?_⟩;obtain⟨j,hj,rfl⟩:=AdE.1 hc;have:=h3 j hj;rw[BA hj] at this;simp only[X4,AcU] at this;simp only[DQ,GM,AcU];rcases this with h | h
 ·exact .inl (.inl (.inl (.inl h)))
 ·exact .inl (.inr h)
theorem MH{z:Int}(h:Bb z=true):GM z=true:=by simp[GM,h]
theorem KP:∀s∈Bn,s≠[]∧Aq (Ab s 0)=false∧Ab s 0≠34∧GM (Ab s 0)=false∧Ab s 0≠35∧Ab s 0≠32∧DQ (Ab s 0)=false:=by decide
theorem AaS{s R:List UInt8}(hs:s∈Bn)(h:s=[60]∨s=[62]→Ab R 0≠61∧Ab R 0≠62):Cz (s++R)=some (sg s,s.length):=by
 obtain⟨a0,a1,a2,a3,a4,_,_⟩:=KP s hs;have hb:Ab (s++R) 0=Ab s 0:=ES a0 _;have hf:Bn.find? (λx=>Lib.hasPrefix (s++R) x)=some s:=by
  rcases YV hs with hl | hp
  ·match s,hl with
   | [c],_=>
    have hn:([c]++R).take 2∉CM:=by
     cases R with
     | nil=>simp[CM]
     | cons d r=>
      simp only[AcK,Acb,List.take,CM,Acf,Adv,and_true,Acn,or_false];rintro(⟨rfl,rfl⟩ | ⟨rfl,rfl⟩ | ⟨rfl,rfl⟩)
      ·exact(h (.inl rfl)).2 rfl
      ·exact(h (.inl rfl)).1 rfl
      ·exact(h (.inr rfl)).1 rfl
    rw[IK Ae7 hn,hb];have:∀s∈Bn,s.length=1→sgB (Ab s 0)=true:=Ae2
    rw[this [c] hs rfl];rfl
  ·have h2:s.length=2:=by
    have:∀p∈CM,p.length=2:=Ae2
    exact this _ hp
   have ht:(s++R).take 2=s:=by rw[←h2,List.take_left]
   rw[Jq (by rw[ht];exact hp),ht]
 rw[Cz,hb,a1,if_neg Ae7,if_neg a2,a3,if_neg Ae7,Fy,Ny (by rw[hb];exact a4),if_neg Ae7,hf];rfl
theorem AaR{t:As}(h:Gb t){R:List UInt8}(hn:Oj t R):Cz (Ci t++R)=some (t,(Ci t).length):=by
 cases h with
 | @num z h0 h1=>
  show Cz (Lib.itoa z++R)=some (_,(Lib.itoa z).length);have e:((z.toNat:Nat):Int)=z:=Aez
  rw[Ho h0,ZW (u:=z.toNat) Aez (.inr (hn.1 rfl)),e]
 | text hp=>exact WM hp (hn.2.1 rfl)
 | @word s hf ho=>
  obtain⟨f0,f1,f2,f3⟩:=N5 hf;obtain⟨b0,b1,_⟩:=Lx (MH f2);have hs:Aj DQ (s++R)=s:=by rw[Fz DQ s R f3,P8 (hn.2.2.1 (.inl rfl)),Acq]
  show Cz (s++R)=some (_,s.length)
  rw[Cz,ES f0,b0,if_neg Ae7,if_neg b1,MH f2,if_pos rfl,Es,hs,ho,if_neg Ae7,hf,if_pos rfl]
 | @ref r hm=>
  obtain⟨g0,g1⟩:=O3 hm;obtain⟨a0,a1⟩:=P3 hm;obtain⟨b0,b1,_⟩:=Lx g1;have hs:Aj DQ (BN r++R)=BN r:=by rw[Fz DQ _ R g0,P8 (hn.2.2.1 (.inr rfl)),Acq]
  show Cz (BN r++R)=some (_,(BN r).length)
  rw[Cz,ES (OG hm),b0,if_neg Ae7,if_neg b1,g1,if_pos rfl,Es,hs,a0,if_pos rfl,a1]
 | sign hs=>exact AaS hs (hn.2.2.2 rfl)
 | dead=>rfl
theorem Ma{t:As}(h:Gb t):Ci t≠[]∧Ab (Ci t) 0≠32:=by
 cases h with
 | @num z h0 h1=>
  show Lib.itoa z≠[]∧Ab (Lib.itoa z) 0≠32;rw[Ho h0]
  exact⟨(Nz _).2.1,(Nz _).2.2⟩
 | text hp=>exact⟨by simp[Ci,Ed],by show(34:Int)≠32;decide⟩
 | word hf ho=>
  obtain⟨f0,f1,f2,f3⟩:=N5 hf
  exact⟨f0,(Lx (MH f2)).2.2.1⟩
 | ref hm=>exact⟨OG hm,(Lx (O3 hm).2).2.2.1⟩
 | sign hs=>
  obtain⟨a0,a1,a2,a3,a4,a5,_⟩:=KP _ hs
  exact⟨a0,a5⟩
 | dead=>exact⟨by simp[Ci,Eh],by decide⟩
def PJ:List As→Prop
 | []=>True
 | t::r=>Oj t (r.flatMap Ci)∧PJ r
theorem RP:∀(ts:List As) (a:Nat),(∀t∈ts,Gb t)→PJ ts→∃T,Ge (ts.flatMap Ci) a=some T∧T.map nA=ts++[Rz]
 | [],a,_,_=>⟨_,Fm rfl,rfl⟩
 | t::r,a,hc,hl=>by
  have ht:=hc t Ae7;obtain⟨T,h1,h2⟩:=RP r (a+(Ci t).length) (λx hx=>hc x AfV) hl.2;obtain⟨n0,n1⟩:=Ma ht;rw[Ac7,W7 n0 n1 (AaR ht hl.1),h1];refine⟨_,rfl,?_⟩;simp only[AcE,h2,AcK,Adv,and_true];cases ht<;>rfl
theorem XV:∀(n:Nat) (l:List UInt8),l.length≤n→(∀c∈l,Aq (c.toNat:Int)=true)→l≠[]→(Ab l 0≠48∨l.length=1)→(Lib.itoa (A1 0 l)).length≤l.length
 | n,l,hn,hd,hne,h0=>by
  have hb:=Hu l (λj hj=>by
   have:=hd _ (AcF hj)
   simpa[BA hj] using this)
  rw[Ho hb.1];obtain⟨r,c,rfl⟩:∃r c,l=r++[c]:=⟨l.dropLast,l.getLast hne,(Adm hne).symm⟩;have hc:=hd c Ae7;simp only[Aq,Abf,decide_eq_true_eq] at hc
  cases r with
  | nil=>
   have e:A1 0 ([]++[c])=(c.toNat:Int) - 48:=by
    rw[FP];have:A1 0 []=0:=rfl;omega
   rw[e,CV Aez]
   simp
  | cons d r=>
   have a0:∀x∈d::r,Aq (x.toNat:Int)=true:=λx hx=>hd x (Ac4 _ hx);have h1:Ab (d::r) 0≠48:=by
    rcases h0 with h0 | h0
    ·exact h0
    ·simp at h0
   match n with
   | 0=>simp at hn
   | n+1=>
    have ih:=XV n (d::r) (by simp at hn ⊢;omega) a0 Ae7 (.inl h1);have a1:=Hu (d::r) (λj hj=>by
     have:=a0 _ (AcF hj)
     simpa[BA hj] using this)
    rw[Ho a1.1] at ih;have a2:∀x∈d::r,48≤x.toNat:=λx hx=>by
     have:=a0 x hx;simp only[Aq,Abf,decide_eq_true_eq] at this;omega
    have a3:A1 0 (d::r)≠0:=λhz=>by
     obtain⟨_,h2⟩:=F5 (d::r) 0 Aez a2 hz;have:=h2 d Ae7;exact h1 (by show(d.toNat:Int)=48;omega)
    have hx:=FP 0 (d::r) c;have e1:10≤(A1 0 (d::r++[c])).toNat:=Aez
    have e2:(A1 0 (d::r++[c])).toNat / 10=(A1 0 (d::r)).toNat:=Aez
    rw[E4 e1,e2];simp only[Aax,Adg];omega
theorem PV:∀(n:Nat) (l:List UInt8) (x:List UInt8×Nat),l.length≤n→Bc l=some x→(x.1.flatMap (λc=>if c=(34:UInt8) then[34,34] else[c])).length+1≤x.2
 | n,[],x,hn,h=>by simp[Bc] at h
 | 0,c::l,x,hn,h=>by simp at hn
 | n+1,c::l,x,hn,h=>by
  simp only[AaT] at hn;by_cases h1:c=34
  ·subst h1;by_cases hq:l.head?=some 34
   ·cases l with
    | nil=>cases hq
    | cons d r=>
     simp only[List.head?_cons,Aa3] at hq;subst hq;rw[VF] at h
     cases e:Bc r with
     | none=>rw[e] at h;cases h
     | some y=>
      rw[e] at h;simp only[AbZ,Aa3] at h;have:=PV n r y (by simp at hn;omega) e;subst h;simp only[Ac7,if_true,Aax,AaT,AbH];omega
   ·rw[YR hq] at h;simp only[Aa3] at h;subst h;simp
  ·by_cases h2:c<32
   ·rw[Xk h1 h2] at h;cases h
   ·rw[YQ h1 h2] at h
    cases e:Bc l with
    | none=>rw[e] at h;cases h
    | some y=>
     rw[e] at h;simp only[AbZ,Aa3] at h;have:=PV n l y Aez e;subst h;simp only[Ac7,if_neg h1,Aax,AaT,AbH];omega
theorem YC{l:List UInt8}{t:As}{k:Nat}(h:Cz l=some (t,k)):Gb t∧(Ci t).length≤k:=by
 unfold Cz at h
 split at h
 ·rename_i h0;have a0:Aj Aq l≠[]:=by
   have:=(IL (p:=Aq) (l:=l) (by
    cases l with
    | nil=>cases h0
    | cons a b=>simp) h0).1
   exact AbY.1 this
  rw[K7 a0] at h
  split at h
  ·rename_i hc;simp only[Aa3,Ach] at h;obtain⟨rfl,rfl⟩:=h;have hb:=Hu (Aj Aq l) (λj hj=>by
    have hh:=H5 Aq l _ (AcF hj)
    simpa[BA hj] using hh)
   refine⟨.num hb.1 hc.1,?_⟩;exact XV _ _ (Ab9 _) (H5 Aq l) a0 hc.2
  ·cases h
 ·split at h
  ·unfold EE at h
   cases e:Bc (l.drop 1) with
   | none=>rw[e] at h;cases h
   | some x=>
    rw[e] at h;simp only[AbZ,Aa3,Ach] at h;obtain⟨rfl,rfl⟩:=h;have h1:=MV _ e;have h2:=PV _ _ x (Ab9 _) e;refine⟨.text h1.1,?_⟩;show(Ed x.1).length≤_;simp only[Ed,AaT,Aax,AbH];omega
  ·split at h
   ·unfold Es at h;simp only at h
    split at h
    ·rename_i hr;simp only[Aa3,Ach] at h;obtain⟨rfl,rfl⟩:=h;obtain⟨h1,h2⟩:=VB hr;refine⟨.ref h1,?_⟩;show(BN _).length≤_;rw[h2];exact Ab9 _
    ·rename_i hr
     split at h
     ·rename_i hf;simp only[Aa3,Ach] at h;obtain⟨rfl,rfl⟩:=h;exact⟨.word hf AfN,Ab9 _⟩
     ·cases h
   ·unfold Fy at h
    split at h
    ·simp only[Aa3,Ach] at h;obtain⟨rfl,rfl⟩:=h;exact⟨.dead,Ab9 _⟩
    ·cases e:Bn.find? λs=>Lib.hasPrefix l s with
     | none=>rw[e] at h;cases h
     | some x=>
      rw[e] at h;simp only[AbZ,Aa3,Ach] at h;obtain⟨rfl,rfl⟩:=h;exact⟨.sign (AdG e),Ab9 _⟩
theorem RM:∀(n:Nat) (l:List UInt8) (a:Nat) {out:List As},l.length≤n→Ge l a=some out→(∀t∈out,nA t=Rz∨Gb (nA t))∧(out.flatMap Ci).length≤l.length
 | n,l,a,out,hn,h=>by
  cases e:l.drop (Aj FI l).length with
  | nil=>
   rw[Fm e] at h;simp only[Aa3] at h;subst h;refine⟨λt ht=>?_,by simp[Ci]⟩;rw[Aaw.1 ht]
   exact .inl rfl
  | cons c r=>
   have hl':=congrArg List.length e;simp at hl'
   cases ho:Cz (c::r) with
   | none=>rw[Gf e Ae7 ho] at h;cases h
   | some x=>
    obtain⟨t,k⟩:=x;have hk:=Fs Ae7 ho;have hk2:=Q3 ho;have hok:=YC ho;rw[G5 e Ae7 ho hk] at h
    cases hr:Ge ((c::r).drop k) (a+(Aj FI l).length+k) with
    | none=>rw[hr] at h;cases h
    | some y=>
     rw[hr] at h;simp only[AbZ,Aa3] at h;subst h
     match n with
     | 0=>omega
     | n+1=>
      have hd:((c::r).drop k).length=r.length+1 - k:=Ae7
      have ih:=RM n ((c::r).drop k) _ AfW hr;rw[hd] at ih;have a0:k≤r.length+1:=hk2;refine⟨λt' ht=>?_,?_⟩
      ·rcases Acf.1 ht with rfl | ht
       ·refine .inr ?_;have:nA {t with at_:=((a+(Aj FI l).length:Nat):Int)}=t:=by
         cases hok.1<;>rfl
        rw[this];exact hok.1
       ·exact ih.1 t' ht
      ·rw[Ac7,Aax];have:Ci {t with at_:=((a+(Aj FI l).length:Nat):Int)}=Ci t:=rfl;rw[this];have:=hok.2;have:=ih.2;omega
def Cf(k:Int):Nat:=if k=8 then 5 else if 9≤k∧k≤14 then 1 else if k=15 then 2 else if k=16∨k=17 then 3 else if k=18∨k=19 then 4 else 6
def Tr.rank:{b:Bool}→Tr b→Nat
 | _,.neg _=>5
 | _,.two k _ _=>Cf k
 | _,_=>6
def FA(k:Int):List UInt8:=K8.getD (k - 9).toNat []
def C9(n:Ah):List As:=
 if n.kind=1 then[⟨1,[],n.num,A6,0⟩]
 else if n.kind=2 then[⟨2,n.text,0,A6,0⟩]
 else if n.kind=3 then[⟨3,if n.num=1 then Db else CL,0,A6,0⟩]
 else if n.kind=4 then[⟨6,[],0,A6,0⟩]
 else if n.kind=5 then[⟨4,[],0,n.ref,0⟩]
 else[⟨4,[],0,n.ref,0⟩,sg [58],⟨4,[],0,n.to,0⟩]
def brk(b:Bool)(l:List As):List As:=if b then sg [40]::(l++[sg [41]]) else l
def Tr.toks:{b:Bool}→Tr b→List As
 | _,.leaf n=>C9 n
 | _,.neg a=>sg [45]::brk (decide (a.rank<5)) a.toks
 | _,.two k a b=>brk (decide (a.rank<Cf k)) a.toks++sg (FA k)::brk (decide (b.rank<Cf k+1)) b.toks
 | _,.call x .nil=>[⟨3,x,0,A6,0⟩,sg [40],sg [41]]
 | _,.call x (.snoc rs a)=>⟨3,x,0,A6,0⟩::sg [40]::(rs.toks++(a.toks++[sg [41]]))
 | _,.nil=>[]
 | _,.snoc ks a=>ks.toks++(a.toks++[sg [44]])
def Tr.text{b:Bool}(t:Tr b):List UInt8:=t.toks.flatMap Ci
def Tr.opt(n:Nat)(t:Tr false):List As:=brk (decide (t.rank<n)) t.toks
def Tr.Num{b:Bool}(t:Tr b):Prop:=∀k∈t.toks,k.num≤9223372036854775807
theorem Xo:∀o,o<11→K8.getD o []∈Bn:=by decide
theorem Jp{k:Int}(h0:9≤k)(h1:k≤19):FA k∈Bn:=Xo _ Aez
theorem FB{b:Bool}{l:List As}{t:As}(h:t∈brk b l):t∈l∨t=sg [40]∨t=sg [41]:=by
 unfold brk at h
 split at h
 ·simp only[Acf,AbB,Acn,or_false] at h;rcases h with h | h | h
  ·exact .inr (.inl h)
  ·exact .inl h
  ·exact .inr (.inr h)
 ·exact .inl h
theorem BZ{b:Bool}{l:List As}{t:As}(h:t∈l):t∈brk b l:=by
 unfold brk
 split
 ·simp[h]
 ·exact h
theorem Eo{n:Ah}(h:Ar n=true):FE n=true:=by
 simp only[Ar,Abf] at h;exact h.1
theorem Yt{n:Ah}(h0:1≤n.kind)(h1:n.kind≤6)(hp:Ar n=true)(hn:∀k∈C9 n,k.num≤9223372036854775807):∀t∈C9 n,Gb t:=by
 have ho:=Eo hp;intro t ht;have a0:Gb (sg [58]):=.sign Ae2;have:n.kind=1∨n.kind=2∨n.kind=3∨n.kind=4∨n.kind=5∨n.kind=6:=Aez
 rcases this with h | h | h | h | h | h<;>simp only[C9,FE,h,if_true,if_false,Int.reduceEq,Acf,Acn,or_false,Abf,decide_eq_true_eq] at ht ho hn
 ·subst ht;exact .num ho (hn _ rfl)
 ·subst ht;exact .text ho
 ·subst ht
  split
  ·exact .word Ae2 AfO
  ·exact .word Ae2 AfO
 ·subst ht;exact .dead
 ·subst ht;exact .ref ho
 ·rcases ht with rfl | rfl | rfl
  ·exact .ref ho.1
  ·exact a0
  ·exact .ref ho.2.1
theorem K6{x:List UInt8}(h:CB x=true):Gb ⟨3,x,0,A6,0⟩:=by
 simp only[CB,Abf,Adw] at h;exact .word h.1.1.1 h.1.1.2
theorem Tr.can:∀{b:Bool} (t:Tr b),t.Fit→t.Num→∀k∈t.toks,Gb k
 | _,.leaf n,hf,hn,k,hk=>Yt hf.1 hf.2.1 hf.2.2.2 hn k hk
 | _,.neg a,hf,hn,k,hk=>by
  have ha:=can a hf (λu hu=>hn u AeN);simp only[Tr.toks,Acf] at hk;rcases hk with rfl | hk
  ·exact .sign Ae2
  ·rcases FB hk with hk | rfl | rfl
   ·exact ha k hk
   ·exact .sign Ae2
   ·exact .sign Ae2
 | _,.two o a b,hf,hn,k,hk=>by
  have ha:=can a hf.2.2.1 (λu hu=>hn u AeI);have hb:=can b hf.2.2.2 (λu hu=>hn u AeH);simp only[Tr.toks,AbB,Acf] at hk;rcases hk with hk | rfl | hk
  ·rcases FB hk with hk | rfl | rfl
   ·exact ha k hk
   ·exact .sign Ae2
   ·exact .sign Ae2
  ·exact .sign (Jp hf.1 hf.2.1)
  ·rcases FB hk with hk | rfl | rfl
   ·exact hb k hk
   ·exact .sign Ae2
   ·exact .sign Ae2
 | _,.call x .nil,hf,hn,k,hk=>by
  simp only[Tr.toks,Acf,Acn,or_false] at hk;rcases hk with rfl | rfl | rfl
  ·exact K6 hf.1
  ·exact .sign Ae2
  ·exact .sign Ae2
 | _,.call x (.snoc rs a),hf,hn,k,hk=>by
  have hr:=can rs hf.2.1 (λu hu=>hn u Ae9);have ha:=can a hf.2.2 (λu hu=>hn u Ae9);simp only[Tr.toks,Acf,AbB,Acn,or_false] at hk;rcases hk with rfl | rfl | hk | hk | rfl
  ·exact K6 hf.1
  ·exact .sign Ae2
  ·exact hr k hk
  ·exact ha k hk
  ·exact .sign Ae2
 | _,.nil,_,_,k,hk=>by cases hk
 | _,.snoc rs a,hf,hn,k,hk=>by
  have hr:=can rs hf.1 (λu hu=>hn u Ae9);have ha:=can a hf.2 (λu hu=>hn u Ae9);simp only[Tr.toks,AbB,Acf,Acn,or_false] at hk;rcases hk with hk | hk | rfl
  ·exact hr k hk
  ·exact ha k hk
  ·exact .sign Ae2
def CJ(l:List As):Prop:=l.flatMap Ci≠[]∧Ab (l.flatMap Ci) 0≠61∧Ab (l.flatMap Ci) 0≠62
theorem CJ.app{l:List As}(h:CJ l)(m:List As):CJ (l++m):=by
 unfold CJ at h ⊢;rw[Adz,ES h.1];exact⟨by simp[h.1],h.2⟩
theorem CJ.cons{t:As}(h:Ci t≠[])(h1:Ab (Ci t) 0≠61)(h2:Ab (Ci t) 0≠62)(m:List As):CJ (t::m):=by
 unfold CJ;rw[Ac7,ES h];exact⟨by simp[h],h1,h2⟩
theorem CJ.brk{l:List As}(h:CJ l)(b:Bool):CJ (Go.Proofs.YtefaigjfkddelaaGreatDoor.brk b l):=by
 unfold Go.Proofs.YtefaigjfkddelaaGreatDoor.brk
 split
 ·exact CJ.cons (by simp[Du]) (by rw[Du];decide) (by rw[Du];decide) _
 ·exact h
theorem Nr{t:As}(h:Gb t)(hk:t.kind≠5)(m:List As):CJ (t::m):=by
 have h0:=(Ma h).1
 cases h with
 | @num z a0 h1=>
  refine CJ.cons h0 ?_ ?_ m<;>
  ·show Ab (Lib.itoa z) 0≠_;rw[Ho a0];have:=(Nz z.toNat).1;simp only[Aq,Abf,decide_eq_true_eq] at this
   omega
 | text hp=>exact CJ.cons h0 (by show(34:Int)≠61;decide) (by show(34:Int)≠62;decide) m
 | word hf ho=>
  have:=Lx (MH (N5 hf).2.2.1)
  exact CJ.cons h0 this.2.2.2.2.1 this.2.2.2.2.2 m
 | ref hm=>
  have:=Lx (O3 hm).2
  exact CJ.cons h0 this.2.2.2.2.1 this.2.2.2.2.2 m
 | sign hs=>exact absurd rfl hk
 | dead=>exact CJ.cons h0 Ae2 Ae2 m
theorem Hp{n:Ah}(h0:1≤n.kind)(h1:n.kind≤6):∃t m,C9 n=t::m∧t.kind≠5∧(m=[]∨∃u,m=[sg [58],u]∧u.kind=4∧t.kind=4):=by
 have:n.kind=1∨n.kind=2∨n.kind=3∨n.kind=4∨n.kind=5∨n.kind=6:=Aez
 rcases this with h | h | h | h | h | h<;>simp only[C9,h,if_true,if_false,Int.reduceEq]
 ·exact⟨_,_,rfl,by simp,.inl rfl⟩
 ·exact⟨_,_,rfl,by simp,.inl rfl⟩
 ·exact⟨_,_,rfl,by simp,.inl rfl⟩
 ·exact⟨_,_,rfl,by simp,.inl rfl⟩
 ·exact⟨_,_,rfl,by simp,.inl rfl⟩
 ·exact⟨_,_,rfl,by simp,.inr ⟨_,rfl,rfl,rfl⟩⟩
theorem Tr.head:∀(t:Tr false),t.Fit→t.Num→CJ t.toks
 | .leaf n,hf,hn=>by
  obtain⟨t,m,e,hk,_⟩:=Hp hf.1 hf.2.1;have hc:=(Tr.leaf n).can hf hn t (by show t∈C9 n;rw[e];simp);show CJ (C9 n);rw[e]
  exact Nr hc hk m
 | .neg a,_,_=>CJ.cons (by simp[Du]) (by rw[Du];decide) (by rw[Du];decide) _
 | .two o a b,hf,hn=>by
  have ha:=head a hf.2.2.1 (λu hu=>hn u AeI)
  exact(ha.brk _).app _
 | .call x .nil,hf,_=>Nr (K6 hf.1) Ae7 _
 | .call x (.snoc rs a),hf,_=>Nr (K6 hf.1) Ae7 _
def VX(R:List UInt8):Prop:=Aq (Ab R 0)=false∧Ab R 0≠34∧DQ (Ab R 0)=false
theorem HY{s:List UInt8}(h:s∈Bn)(B:List As):VX ((sg s::B).flatMap Ci):=by
 obtain⟨a0,a1,a2,a3,a4,a5,a6⟩:=KP s h;rw[Ac7,Du];unfold VX;rw[ES a0];exact⟨a1,a2,a6⟩
theorem H4{t:As}(hk:t.kind≠5){R:List UInt8}(h:VX R):Oj t R:=⟨λ_=>h.1,λ_=>h.2.1,λ_=>h.2.2,λe=>absurd e hk⟩
theorem FH{s R:List UInt8}(h1:s≠[60])(h2:s≠[62]):Oj (sg s) R:=⟨by simp[sg],by simp[sg],by simp[sg],λ_ e=>by rcases e with e | e<;>contradiction⟩
theorem Wv{s:List UInt8}{B:List As}(h:CJ B):Oj (sg s) (B.flatMap Ci):=⟨by simp[sg],by simp[sg],by simp[sg],λ_ _=>h.2⟩
theorem NO{l:List As}(hl:∀B:List As,VX (B.flatMap Ci)→PJ B→PJ (l++B))(b:Bool):∀B:List As,VX (B.flatMap Ci)→PJ B→PJ (brk b l++B):=by
 intro B hs hB;unfold brk
 split
 ·simp only[AcK,Abh,Acb];exact⟨FH Ae2 Ae2,hl _ (HY Ae2 B) ⟨FH Ae2 Ae2,hB⟩⟩
 ·exact hl B hs hB
theorem Tr.link:∀{b:Bool} (t:Tr b),t.Fit→t.Num→∀B:List As,(b=true∨VX (B.flatMap Ci))→PJ B→PJ (t.toks++B)
 | _,.leaf n,hf,hn,B,hs,hB=>by
  have hs:=hs.resolve_left Ae7;obtain⟨t,m,e,hk,hm⟩:=Hp hf.1 hf.2.1;show PJ (C9 n++B);rw[e];rcases hm with rfl | ⟨u,rfl,hu,_⟩
  ·exact⟨H4 hk hs,hB⟩
  ·exact⟨H4 hk (HY Ae2 _),FH Ae2 Ae2,H4 Aez hs,hB⟩
 | _,.neg a,hf,hn,B,hs,hB=>by
  have hs:=hs.resolve_left Ae7;have ha:=link a hf (λu hu=>hn u AeN)
  exact⟨FH Ae2 Ae2,NO (λB h1 h2=>ha B (.inr h1) h2) _ B hs hB⟩
 | _,.two o a b,hf,hn,B,hs,hB=>by
  have hs:=hs.resolve_left Ae7;have hna:a.Num:=λu hu=>hn u AeI;have hnb:b.Num:=λu hu=>hn u AeH;have ha:=link a hf.2.2.1 hna;have hb:=link b hf.2.2.2 hnb;have hm:=Jp hf.1 hf.2.1;simp only[Tr.toks,Abh,AcK]
  exact NO (λB h1 h2=>ha B (.inr h1) h2) _ _ (HY hm _) ⟨Wv (((b.head hf.2.2.2 hnb).brk _).app _),NO (λB h1 h2=>hb B (.inr h1) h2) _ B hs hB⟩
 | _,.call x .nil,hf,hn,B,hs,hB=>⟨H4 Ae7 (HY Ae2 _),FH Ae2 Ae2,FH Ae2 Ae2,hB⟩
 | _,.call x (.snoc rs a),hf,hn,B,hs,hB=>by
  have hr:=link rs hf.2.1 (λu hu=>hn u Ae9);have ha:=link a hf.2.2 (λu hu=>hn u Ae9);simp only[Tr.toks,Abh,AcK,Acb]
  exact⟨H4 Ae7 (HY Ae2 _),FH Ae2 Ae2,hr _ (.inl rfl) (ha _ (.inr (HY Ae2 _)) ⟨FH Ae2 Ae2,hB⟩)⟩
 | _,.nil,_,_,B,_,hB=>hB
 | _,.snoc rs a,hf,hn,B,_,hB=>by
  have hr:=link rs hf.1 (λu hu=>hn u Ae9);have ha:=link a hf.2 (λu hu=>hn u Ae9);simp only[Tr.toks,Abh,AcK,Acb];exact hr _ (.inl rfl) (ha _ (.inr (HY Ae2 _)) ⟨FH Ae2 Ae2,hB⟩)
theorem Tr.lex(t:Tr false)(hf:t.Fit)(hn:t.Num):∃T,Ii t.text=some T∧T.map nA=t.toks++[Rz]:=by
 have:=t.link hf hn [] (.inr ⟨rfl,by decide,rfl⟩) trivial;rw[Acq] at this;exact RP _ 0 (t.can hf hn) this
def Jh(least r need:Nat):Nat:=if r<least then need+1 else need
def Tr.need:{b:Bool}→Tr b→Nat
 | _,.leaf _=>0
 | _,.neg a=>Jh 5 a.rank a.need+1
 | _,.two k a b=>max (Jh (Cf k) a.rank a.need) (Jh (Cf k+1) b.rank b.need)
 | _,.call _ ks=>ks.need+1
 | _,.nil=>0
 | _,.snoc ks a=>max ks.need a.need
def Se(n:Nat):Ef:=if n<4 then .lev n else if n=4 then .unary else .prim
theorem Vd{n:Nat}(h:n<4):below n=Se (n+1):=by
 unfold below Se;by_cases h3:n<3
 ·rw[if_pos h3,if_pos Aez]
 ·rw[if_neg h3,if_neg Aez,if_pos Aez]
def Left(T:List As)(s:B7):List As:=(T.drop s.at_).map nA
theorem DD{T:List As}{s:B7}{u:As}{R:List As}(h:Left T s=u::R):(Aa T s).kind=u.kind∧(Aa T s).text=u.text∧(Aa T s).num=u.num∧(Aa T s).ref=u.ref:=by
 unfold Left at h;have:((T.drop s.at_).map nA)[0]?=some u:=by rw[h];rfl
 rw[AbA,AcH,Adb] at this
 cases e:T[s.at_]? with
 | none=>rw[e] at this;cases this
 | some t=>
  rw[e] at this;simp only[AbZ,Aa3] at this;have et:Aa T s=t:=by simp[Aa,e]
  rw[et,←this];exact⟨rfl,rfl,rfl,rfl⟩
theorem B8{T:List As}{s s':B7}{w R:List As}(h:Left T s=w++R)(hs:s'.at_=s.at_+w.length):Left T s'=R:=by
 unfold Left at h ⊢;rw[hs,←List.drop_drop,List.map_drop,h,Aev]
theorem CX{T:List As}{s:B7}{u:As}{R:List As}(h:Left T s=u::R)(x:List UInt8):BR T s x=(decide (u.kind=5)&&decide (u.text=x)):=by
 obtain⟨h1,h2,_⟩:=DD h;rw[BR,h1,h2]
def Ab4(n:Nat)(u:As):Prop:=u.kind=5→u.text≠[58]∧∀m,n≤m→m<4→(AD m).findIdx? (λx=>decide (x=u.text))=none
def Zq(n:Nat)(R:List As):Prop:=∃u B,R=u::B∧Ab4 n u
theorem Zq.mono{n m:Nat}{R:List As}(h:Zq n R)(hm:n≤m):Zq m R:=by
 obtain⟨u,B,e,hs⟩:=h;exact⟨u,B,e,λh5=>⟨(hs h5).1,λk hk=>(hs h5).2 k Aez⟩⟩
theorem ZD(n:Nat):Zq n [Rz]:=⟨_,_,rfl,λh=>by cases h⟩
theorem Yd(n:Nat)(B:List As):Zq n (sg [41]::B):=⟨_,_,rfl,λ_=>⟨by decide,λm _ h4=>by
 have:∀m,m<4→(AD m).findIdx? (λx=>decide (x=[41]))=none:=Ae2
 exact this m h4⟩⟩
theorem AaK(n:Nat)(B:List As):Zq n (sg [44]::B):=⟨_,_,rfl,λ_=>⟨by decide,λm _ h4=>by
 have:∀m,m<4→(AD m).findIdx? (λx=>decide (x=[44]))=none:=Ae2
 exact this m h4⟩⟩
theorem ZZ{T:List As}{s:B7}{R:List As}{n m:Nat}(h:Left T s=R)(hf:Zq n R)(hn:n≤m)(h4:m<4):GS T s m=none:=by
 obtain⟨u,B,rfl,hs⟩:=hf;obtain⟨h1,h2,_⟩:=DD h;unfold GS
 split
 ·rename_i h5;rw[h2];exact(hs (by rw[←h1];exact h5)).2 m hn h4
 ·rfl
theorem AaU:∀o,o<11→K8.getD o []≠[58]∧∃n,n<4∧Cf (9+(o:Int))=n+1∧(∃i,(AD n).findIdx? (λx=>decide (x=K8.getD o []))=some i∧(Ay n).getD i 0=9+(o:Int))∧∀m,m<4→n+1≤m→(AD m).findIdx? (λx=>decide (x=K8.getD o []))=none:=by
 intro o ho;have:o=0∨o=1∨o=2∨o=3∨o=4∨o=5∨o=6∨o=7∨o=8∨o=9∨o=10:=Aez
 rcases this with rfl | rfl | rfl | rfl | rfl | rfl | rfl | rfl | rfl | rfl | rfl
 ·exact⟨by decide,0,by decide,rfl,⟨0,rfl,rfl⟩,by decide⟩
 ·exact⟨by decide,0,by decide,rfl,⟨1,rfl,rfl⟩,by decide⟩
 ·exact⟨by decide,0,by decide,rfl,⟨2,rfl,rfl⟩,by decide⟩
 ·exact⟨by decide,0,by decide,rfl,⟨3,rfl,rfl⟩,by decide⟩
 ·exact⟨by decide,0,by decide,rfl,⟨4,rfl,rfl⟩,by decide⟩
 ·exact⟨by decide,0,by decide,rfl,⟨5,rfl,rfl⟩,by decide⟩
 ·exact⟨by decide,1,by decide,rfl,⟨0,rfl,rfl⟩,by decide⟩
 ·exact⟨by decide,2,by decide,rfl,⟨0,rfl,rfl⟩,by decide⟩
 ·exact⟨by decide,2,by decide,rfl,⟨1,rfl,rfl⟩,by decide⟩
 ·exact⟨by decide,3,by decide,rfl,⟨0,rfl,rfl⟩,by decide⟩
 ·exact⟨by decide,3,by decide,rfl,⟨1,rfl,rfl⟩,by decide⟩
theorem V8{k:Int}(h0:9≤k)(h1:k≤19):FA k≠[58]∧∃n,n<4∧Cf k=n+1∧(∃i,(AD n).findIdx? (λx=>decide (x=FA k))=some i∧(Ay n).getD i 0=k)∧∀m,m<4→n+1≤m→(AD m).findIdx? (λx=>decide (x=FA k))=none:=by
 have:=AaU (k - 9).toNat Aez;rw[show 9+(((k - 9).toNat:Nat):Int)=k by omega] at this;exact this
def Eg{b:Bool}(t:Tr b)(w:List As)(s:B7):B7:=⟨s.at_+w.length,s.out++t.flat s.out.length,s.deep⟩
def plc(t:Tr false)(s:B7):Nat:=s.out.length+t.cnt - 1
def JV(d:Nat)(t:Tr false)(w:List As)(s:B7):Io:=if s.deep+d≤12 then .ok (Eg t w s) (plc t s) else .err 6
def GoK(t:Tr false)(d:Nat)(w:List As)(n:Nat):Prop:=∀(T:List As) (s:B7) (R:List As) (r:Io),s.deep≤12→Left T s=w++R→Zq (n+1) R→
 (if s.deep+d≤12 then PE T (.loop n (plc t s)) (Eg t w s) r else r=.err 6)→PE T (.lev n) s r
def OM(t:Tr false)(d:Nat)(w:List As)(n:Nat):Prop:=∀(T:List As) (s:B7) (R:List As),s.deep≤12→Left T s=w++R→Zq n R→PE T (Se n) s (JV d t w s)
theorem GoK.m{t:Tr false}{d:Nat}{w:List As}{n:Nat}(h:GoK t d w n)(hn:n<4):OM t d w n:=by
 intro T s R hs hl hf;have e:Se n=.lev n:=by rw[Se,if_pos hn]
 rw[e];refine h T s R _ hs hl (hf.mono Aez) ?_;unfold JV
 split
 ·exact .loop_end (ZZ (B8 hl rfl) hf (Ab9 n) hn)
 ·rfl
theorem OM.k{t:Tr false}{d:Nat}{w:List As}{n:Nat}(h:OM t d w (n+1))(hn:n<4):GoK t d w n:=by
 intro T s R r hs hl hf hr;have hp:=h T s R hs hl hf;rw[←Vd hn] at hp;unfold JV at hp
 split at hp
 ·rename_i hd;rw[if_pos hd] at hr;exact .lev_ok hp hr
 ·rename_i hd;rw[if_neg hd] at hr;subst hr;exact .lev_err hp
theorem OM.down{t:Tr false}{d:Nat}{w:List As}(h:OM t d w 5)(hw:∃u v,w=u::v∧¬(u.kind=5∧u.text=[45])):∀k n,n+k=5→OM t d w n:=by
 have hu:OM t d w 4:=by
  intro T s R hs hl hf;obtain⟨u,v,rfl,hv⟩:=hw;have hp:=h T s R hs hl (hf.mono Aez);refine .un_prim ?_ hp;rw[CX hl];by_cases h5:u.kind=5
  ·have:¬u.text=[45]:=λe=>hv ⟨h5,e⟩;simp[this]
  ·simp[h5]
 intro k
 induction k with
 | zero=>intro n hn;rw[show n=5 by omega];exact h
 | succ k ih=>
  intro n hn;by_cases h4:n=4
  ·rw[h4];exact hu
  ·exact(OM.k (ih (n+1) Aez) Aez).m Aez
theorem Ve{t:Tr false}(h:OM t t.need t.toks 0):OM t (t.need+1) (sg [40]::(t.toks++[sg [41]])) 5:=by
 intro T s R hs hl hf;have hl:Left T s=sg [40]::(t.toks++(sg [41]::R)):=by rw[hl];simp
 have hi:BR T s [40]=true:=by rw[CX hl];rfl
 show PE T .prim s _;by_cases hd:s.deep<12
 ·have a0:Left T (Az (Al s))=t.toks++(sg [41]::R):=B8 (w:=[sg [40]]) hl rfl;have hp:=h T (Az (Al s)) (sg [41]::R) AeQ a0 (Yd 0 R);unfold JV at hp ⊢;have a1:(Az (Al s)).deep=s.deep+1:=rfl;rw[a1] at hp;by_cases hh:s.deep+1+t.need≤12
  ·rw[if_pos hh] at hp;rw[if_pos Aez];have a2:Left T (Eg t t.toks (Az (Al s)))=sg [41]::R:=B8 a0 rfl;have a3:BR T (Eg t t.toks (Az (Al s))) [41]=true:=by rw[CX a2];rfl
   have:=PE.pr_ok hi hd hp a3;have e:BC (Al (Eg t t.toks (Az (Al s))))=Eg t (sg [40]::(t.toks++[sg [41]])) s:=by
    simp only[BC,Al,Eg,Az,B7.mk.injEq,AaT,Aax,AbH];exact⟨by omega,trivial,by omega⟩
   rw[e] at this;exact this
  ·rw[if_neg hh] at hp;rw[if_neg Aez];exact .pr_err hi hd hp
 ·unfold JV;rw[if_neg Aez];exact .pr_deep hi Aez
theorem V9{t:Tr false}(h0:OM t t.need t.toks 0)(hm:∀n,n+1≤t.rank→OM t t.need t.toks n){n:Nat}(hn:n≤5):OM t (Jh (n+1) t.rank t.need) (brk (decide (t.rank<n+1)) t.toks) n:=by
 unfold Jh brk;by_cases hr:t.rank<n+1
 ·rw[if_pos hr,if_pos AfN];exact(Ve h0).down ⟨_,_,rfl,by rintro⟨_,e⟩;cases e⟩ (5 - n) n Aez
 ·rw[if_neg hr,if_neg AfN];exact hm n Aez
theorem YF{t:Tr false}(h0:OM t t.need t.toks 0)(hk:∀n,n<4→n+1≤t.rank→GoK t t.need t.toks n){n:Nat}(hn:n<4):GoK t (Jh (n+1) t.rank t.need) (brk (decide (t.rank<n+1)) t.toks) n:=by
 unfold Jh brk;by_cases hr:t.rank<n+1
 ·rw[if_pos hr,if_pos AfN];exact((Ve h0).down ⟨_,_,rfl,by rintro⟨_,e⟩;cases e⟩ (5 - (n+1)) (n+1) Aez).k hn
 ·rw[if_neg hr,if_neg AfN];exact hk n hn Aez
theorem YK{k:Int}(h0:9≤k)(h1:k≤19):1≤Cf k∧Cf k≤4:=by
 obtain⟨_,n,hn,e,_⟩:=V8 h0 h1;omega
theorem Tr.rank_le:∀(t:Tr false),t.Fit→1≤t.rank∧t.rank≤6
 | .leaf _,_=>by simp[Tr.rank]
 | .neg _,_=>by simp[Tr.rank]
 | .two k _ _,h=>by have:=YK h.1 h.2.1;simp only[Tr.rank];omega
 | .call _ _,_=>by simp[Tr.rank]
theorem ZK{n:Ah}(h0:1≤n.kind)(h1:n.kind≤6)(hk:n.kids=[])(hp:Ar n=true):OM (.leaf n) 0 (C9 n) 5:=by
 intro T s R hs hl hf;show PE T .prim s _;unfold JV;rw[if_pos Aez];have ho:=Eo hp;have a2:plc (.leaf n) s=s.out.length:=by simp[plc,Tr.cnt]
 rw[a2];have hb:=hp;simp only[Ar,Abf,decide_eq_true_eq] at hb;have a0:∀w:List As,Eg (.leaf n) w s=B4 ⟨s.at_+w.length,s.out,s.deep⟩ n:=λw=>by simp[Eg,B4,Tr.flat]
 rw[a0];have:n.kind=1∨n.kind=2∨n.kind=3∨n.kind=4∨n.kind=5∨n.kind=6:=Aez
 rcases this with h | h | h | h | h | h<;>simp only[C9,FE,AC,h,if_true,if_false,Int.reduceEq,Abf,decide_eq_true_eq,AcU,true_and,and_true,AcK,Acb] at hl ho hb ⊢
 ·obtain⟨t1,t2,t3,t4⟩:=DD hl;have e:n={kind:=1,num:=(Aa T s).num}:=by cases n;simp_all
  rw[e];exact .pr_num t1
 ·obtain⟨t1,t2,t3,t4⟩:=DD hl;have e:n={kind:=2,text:=(Aa T s).text}:=by cases n;simp_all
  rw[e];exact .pr_text t1
 ·obtain⟨t1,t2,t3,t4⟩:=DD hl;rcases ho with ho | ho
  ·rw[if_neg Aez] at t2;have e:n={kind:=3}:=by cases n;simp_all
   rw[e];exact .pr_false t1 t2
  ·rw[if_pos ho] at t2;have e:n={kind:=3,num:=1}:=by cases n;simp_all
   rw[e];exact .pr_true t1 t2
 ·obtain⟨t1,t2,t3,t4⟩:=DD hl;have e:n={kind:=4}:=by cases n;simp_all
  rw[e];exact .pr_dead t1
 ·obtain⟨t1,t2,t3,t4⟩:=DD hl;have e:n={kind:=5,ref:=(Aa T s).ref}:=by cases n;simp_all
  rw[e];refine .pr_ref t1 ?_;obtain⟨u,B,rfl,hu⟩:=hf;have a1:Left T (Al s)=u::B:=B8 (w:=[_]) hl rfl;rw[CX a1];by_cases h5:u.kind=5
  ·simp[(hu h5).1]
  ·simp[h5]
 ·obtain⟨t1,t2,t3,t4⟩:=DD hl;have a1:Left T (Al s)=sg [58]::⟨4,[],0,n.to,0⟩::R:=B8 (w:=[_]) hl rfl;have a3:Left T (Al (Al s))=⟨4,[],0,n.to,0⟩::R:=B8 (w:=[_]) a1 rfl;obtain⟨q1,q2,q3,q4⟩:=DD a3;have e:n={kind:=6,ref:=(Aa T s).ref,to:=(Aa T (Al (Al s))).ref}:=by cases n;simp_all
  have hr:Bw (Aa T s).ref (Aa T (Al (Al s))).ref=true:=by rw[t4,q4];exact ho.2.2
  have hi:BR T (Al s) [58]=true:=by rw[CX a1];rfl
  rw[e];exact .pr_range t1 hi q1 hr
def GoR(ks:Tr true):Prop:=∀(T:List As) (s:B7) (R:List As) (x:List UInt8) (k0:List Int) (r:Io),s.deep≤12→Left T s=ks.toks++R→
 (if s.deep+ks.need≤12 then PE T (.args x (k0++ks.kids s.out.length)) (Eg ks ks.toks s) r else r=.err 6)→PE T (.args x k0) s r
def GoT:{b:Bool}→Tr b→Prop
 | false,t=>(∀n,n+1≤t.rank→OM t t.need t.toks n)∧∀n,n<4→n+1≤t.rank→GoK t t.need t.toks n
 | true,ks=>GoR ks
theorem Mr{x:List UInt8}(h:CB x=true):x≠Db∧x≠CL:=by
 simp only[CB,Abf,Adw,decide_eq_false_iff_not] at h;exact⟨h.1.2,h.2⟩
theorem Ug{t:Tr false}(h5:OM t t.need t.toks 5)(hw:∃u v,t.toks=u::v∧¬(u.kind=5∧u.text=[45]))(hr:t.rank=6):GoT t:=by
 have hd:=h5.down hw;refine⟨λn hn=>hd (5 - n) n Aez,λn hn _=>(hd (5 - (n+1)) (n+1) Aez).k hn⟩
theorem Vn{t:Tr false}{m:Nat}(hr:t.rank=m+1)(hm4:m≤4)(h:OM t t.need t.toks m)(hk:m<4→GoK t t.need t.toks m):GoT t:=by
 have key:∀k n,n+k=m→OM t t.need t.toks n:=by
  intro k
  induction k with
  | zero=>intro n hn;rw[show n=m by omega];exact h
  | succ k ih=>intro n hn;exact(OM.k (ih (n+1) Aez) Aez).m Aez
 refine⟨λn hn=>key (m - n) n Aez,λn hn h1=>?_⟩;by_cases e:n=m
 ·subst e;exact hk hn
 ·exact(key (m - (n+1)) (n+1) Aez).k hn
def Kd(l:List As):Prop:=∃u v,l=u::v∧¬(u.kind=5∧u.text=[41])
theorem Kd.app{l:List As}(h:Kd l)(m:List As):Kd (l++m):=by
 obtain⟨u,v,rfl,hu⟩:=h;exact⟨u,v++m,rfl,hu⟩
theorem Kd.brk{l:List As}(h:Kd l)(b:Bool):Kd (Go.Proofs.YtefaigjfkddelaaGreatDoor.brk b l):=by
 unfold Go.Proofs.YtefaigjfkddelaaGreatDoor.brk
 split
 ·exact⟨_,_,rfl,by rintro⟨_,e⟩;cases e⟩
 ·exact h
theorem Tr.first:∀{b:Bool} (t:Tr b),t.Fit→(b=true∧t.toks=[])∨Kd t.toks
 | _,.leaf n,hf=>by
  obtain⟨u,m,e,hk,_⟩:=Hp hf.1 hf.2.1
  exact .inr ⟨u,m,e,λh=>hk h.1⟩
 | _,.neg a,_=>.inr ⟨_,_,rfl,by rintro⟨_,e⟩;cases e⟩
 | _,.two k a b,hf=>by
  rcases first a hf.2.2.1 with h | h
  ·cases h.1
  ·exact .inr ((h.brk _).app _)
 | _,.call x .nil,_=>.inr ⟨_,_,rfl,by rintro⟨e,_⟩;cases e⟩
 | _,.call x (.snoc rs a),_=>.inr ⟨_,_,rfl,by rintro⟨e,_⟩;cases e⟩
 | _,.nil,_=>.inl ⟨rfl,rfl⟩
 | _,.snoc rs a,hf=>by
  rcases first a hf.2 with h | h
  ·cases h.1
  ·rcases first rs hf.1 with h2 | h2
   ·refine .inr ?_;simp only[Tr.toks,h2.2,Acb];exact h.app _
   ·exact .inr (h2.app _)
theorem Wr{T:List As}{s:B7}{l:List As}(h:Kd l)(hl:Left T s=l):BR T s [41]=false:=by
 obtain⟨u,v,rfl,hu⟩:=h;rw[CX hl];by_cases h5:u.kind=5
 ·have:¬u.text=[41]:=λe=>hu ⟨h5,e⟩;simp[this]
 ·simp[h5]
theorem Tr.go:∀{b:Bool} (t:Tr b),t.Fit→GoT t
 | _,.leaf n,hf=>by
  obtain⟨u,m,e,hk,_⟩:=Hp hf.1 hf.2.1
  exact Ug (ZK hf.1 hf.2.1 hf.2.2.1 hf.2.2.2) ⟨u,m,e,λh=>hk h.1⟩ rfl
 | _,.neg a,hf=>by
  have ga:GoT a:=go a hf;have hr:=Tr.rank_le a hf;have hop:OM a (Jh 5 a.rank a.need) (brk (decide (a.rank<5)) a.toks) 4:=V9 (ga.1 0 Aez) ga.1 (n:=4) Aez;refine Vn (m:=4) rfl (Ab9 _) ?_ (λh=>absurd h Aez);intro T s R hs hl hfol;have hl:Left T s=sg [45]::(brk (decide (a.rank<5)) a.toks++R):=hl;have hi:BR T s [45]=true:=by rw[CX hl];rfl
  show PE T .unary s _;have a0:(Tr.neg a).need=Jh 5 a.rank a.need+1:=rfl;by_cases hd:s.deep<12
  ·have a1:Left T (Az (Al s))=brk (decide (a.rank<5)) a.toks++R:=B8 (w:=[_]) hl rfl;have hp:=hop T (Az (Al s)) R AeQ a1 hfol;unfold JV at hp ⊢;have a6:(Az (Al s)).deep=s.deep+1:=rfl;rw[a6] at hp;rw[a0];by_cases hh:s.deep+1+Jh 5 a.rank a.need≤12
   ·rw[if_pos hh] at hp;rw[if_pos Aez];have:=PE.un_ok hi hd hp;have e:B4 (BC (Eg a (brk (decide (a.rank<5)) a.toks) (Az (Al s)))) {kind:=8,kids:=[((plc a (Az (Al s)):Nat):Int)]}=Eg (.neg a) (Tr.neg a).toks s:=by
     simp only[B4,BC,Eg,Az,Al,Tr.flat,Tr.toks,B7.mk.injEq,AaT,Abh,plc];exact⟨by omega,trivial,by omega⟩
    have e2:(Eg a (brk (decide (a.rank<5)) a.toks) (Az (Al s))).out.length=plc (.neg a) s:=by
     simp only[Eg,Az,Al,plc,Tr.cnt,Aax,Tr.flat_len];omega
    rw[e,e2] at this;exact this
   ·rw[if_neg hh] at hp;rw[if_neg Aez];exact .un_err hi hd hp
  ·unfold JV;rw[if_neg Aez]
   exact .un_deep hi Aez
 | _,.two k a b,hf=>by
  have ga:GoT a:=go a hf.2.2.1;have gb:GoT b:=go b hf.2.2.2;have ra:=Tr.rank_le a hf.2.2.1;have rb:=Tr.rank_le b hf.2.2.2;obtain⟨aj,n,hn,ac,⟨i,hi,ak⟩,al⟩:=V8 hf.1 hf.2.1;have hA:=YF (ga.1 0 Aez) ga.2 hn;have hB:=V9 (gb.1 0 Aez) gb.1 (n:=n+1) Aez;have a0:(Tr.two k a b).need=max (Jh (n+1) a.rank a.need) (Jh (n+1+1) b.rank b.need):=by simp only[Tr.need,ac]
  have a2:(Tr.two k a b).toks=brk (decide (a.rank<n+1)) a.toks++sg (FA k)::brk (decide (b.rank<n+1+1)) b.toks:=by simp only[Tr.toks,ac]
  have hK:GoK (.two k a b) (Tr.two k a b).need (Tr.two k a b).toks n:=by
   intro T s R r hs hl hfol hr;rw[a2,Abh,AcK] at hl;have am:Zq (n+1) (sg (FA k)::(brk (decide (b.rank<n+1+1)) b.toks++R)):=⟨_,_,rfl,λ_=>⟨aj,λm h1 h2=>al m h2 h1⟩⟩;refine hA T s _ r hs hl am ?_
   split
   ·rename_i a3;have a1:Left T (Eg a (brk (decide (a.rank<n+1)) a.toks) s)=sg (FA k)::(brk (decide (b.rank<n+1+1)) b.toks++R):=B8 hl rfl;obtain⟨t1,t2,_⟩:=DD a1;have hop:GS T (Eg a (brk (decide (a.rank<n+1)) a.toks) s) n=some i:=by
     unfold GS;rw[if_pos (show _=(5:Int) from t1),t2];exact hi
    have a4:Left T (Al (Eg a (brk (decide (a.rank<n+1)) a.toks) s))=brk (decide (b.rank<n+1+1)) b.toks++R:=B8 (w:=[_]) a1 rfl;have hp:=hB T (Al (Eg a (brk (decide (a.rank<n+1)) a.toks) s)) R hs a4 hfol;rw[←Vd hn] at hp;unfold JV at hp;have a6:(Al (Eg a (brk (decide (a.rank<n+1)) a.toks) s)).deep=s.deep:=rfl;rw[a6] at hp;by_cases ai:s.deep+Jh (n+1+1) b.rank b.need≤12
    ·rw[if_pos ai] at hp;rw[if_pos Af8] at hr;refine .loop_go hop hp ?_;rw[ak];have e:B4 (Eg b (brk (decide (b.rank<n+1+1)) b.toks) (Al (Eg a (brk (decide (a.rank<n+1)) a.toks) s))) {kind:=k,kids:=[((plc a s:Nat):Int),((plc b (Al (Eg a (brk (decide (a.rank<n+1)) a.toks) s)):Nat):Int)]}=Eg (.two k a b) (Tr.two k a b).toks s:=by
      rw[a2];simp only[B4,Eg,Al,Tr.flat,B7.mk.injEq,Aax,AaT,Abh,plc,Tr.flat_len];exact⟨by omega,trivial,trivial⟩
     have e2:(Eg b (brk (decide (b.rank<n+1+1)) b.toks) (Al (Eg a (brk (decide (a.rank<n+1)) a.toks) s))).out.length=plc (.two k a b) s:=by
      simp only[Eg,Al,plc,Tr.cnt,Aax,Tr.flat_len];omega
     rw[e,e2];exact hr
    ·rw[if_neg ai] at hp;rw[if_neg Af8] at hr;subst hr;exact .loop_err hop hp
   ·rename_i a3;rw[if_neg Af8] at hr;exact hr
  exact Vn (m:=n) (by simp only[Tr.rank,ac]) Aez (hK.m hn) (λ_=>hK)
 | _,.call x .nil,hf=>by
  obtain⟨a7,a8⟩:=Mr hf.1;refine Ug ?_ ⟨_,_,rfl,by rintro⟨e,_⟩;cases e⟩ rfl;intro T s R hs hl hfol;have hl:Left T s=⟨3,x,0,A6,0⟩::sg [40]::sg [41]::R:=hl;obtain⟨t1,t2,_⟩:=DD hl;have a1:Left T (Al s)=sg [40]::sg [41]::R:=B8 (w:=[_]) hl rfl;have a4:Left T (Az (Al (Al s)))=sg [41]::R:=B8 (w:=[_]) a1 rfl;have a9:BR T (Al s) [40]=true:=by rw[CX a1];rfl
  have ad:BR T (Az (Al (Al s))) [41]=true:=by rw[CX a4];rfl
  show PE T .prim s _;unfold JV;by_cases hd:s.deep<12
  ·rw[if_pos AeQ];have:=PE.pr_call0 t1 (by rw[t2];exact a7) (by rw[t2];exact a8) a9 hd ad;rw[t2] at this;exact this
  ·rw[if_neg (by show ¬s.deep+1≤12;omega)]
   exact .pr_calldeep t1 (by rw[t2];exact a7) (by rw[t2];exact a8) a9 Aez
 | _,.call x (.snoc rs a),hf=>by
  obtain⟨a7,a8⟩:=Mr hf.1;have gr:GoR rs:=go rs hf.2.1;have ga:GoT a:=go a hf.2.2;have ra:=Tr.rank_le a hf.2.2;have a5:Kd (rs.toks++(a.toks++[sg [41]])):=by
   rcases Tr.first a hf.2.2 with h | h
   ·cases h.1
   ·rcases Tr.first rs hf.2.1 with h2 | h2
    ·rw[h2.2,Acb];exact h.app _
    ·exact h2.app _
  refine Ug ?_ ⟨_,_,rfl,by rintro⟨e,_⟩;cases e⟩ rfl;intro T s R hs hl hfol;have hl:Left T s=⟨3,x,0,A6,0⟩::sg [40]::(rs.toks++(a.toks++(sg [41]::R))):=by rw[hl];simp[Tr.toks]
  obtain⟨t1,t2,_⟩:=DD hl;have a1:Left T (Al s)=sg [40]::(rs.toks++(a.toks++(sg [41]::R))):=B8 (w:=[_]) hl rfl;have a4:Left T (Az (Al (Al s)))=rs.toks++(a.toks++(sg [41]::R)):=B8 (w:=[_]) a1 rfl;have a9:BR T (Al s) [40]=true:=by rw[CX a1];rfl
  have ad:BR T (Az (Al (Al s))) [41]=false:=by
   refine Wr (a5.app R) ?_;rw[a4];simp
  have a0:(Tr.call x (.snoc rs a)).need=max rs.need a.need+1:=rfl;show PE T .prim s _;unfold JV;by_cases hd:s.deep<12
  ·refine .pr_call t1 (by rw[t2];exact a7) (by rw[t2];exact a8) a9 hd ad ?_;rw[t2];refine gr T (Az (Al (Al s))) _ x [] _ AeQ a4 ?_;have a6:(Az (Al (Al s))).deep=s.deep+1:=rfl;rw[a6,a0]
   split
   ·rename_i ae;have aa:Left T (Eg rs rs.toks (Az (Al (Al s))))=a.toks++(sg [41]::R):=B8 a4 rfl;have hp:=ga.1 0 Aez T (Eg rs rs.toks (Az (Al (Al s)))) _ AeQ aa (Yd 0 R);unfold JV at hp;have af:(Eg rs rs.toks (Az (Al (Al s)))).deep=s.deep+1:=rfl;rw[af] at hp;by_cases a3:s.deep+1+a.need≤12
    ·rw[if_pos a3] at hp;rw[if_pos Aez];have ab:Left T (Eg a a.toks (Eg rs rs.toks (Az (Al (Al s)))))=sg [41]::R:=B8 aa rfl;have ag:BR T (Eg a a.toks (Eg rs rs.toks (Az (Al (Al s))))) [44]=false:=by rw[CX ab];rfl
     have ah:BR T (Eg a a.toks (Eg rs rs.toks (Az (Al (Al s))))) [41]=true:=by rw[CX ab];rfl
     have:=PE.ar_end (x:=x) (ks:=[]++rs.kids (Az (Al (Al s))).out.length) hp ag ah;have e:B4 (BC (Al (Eg a a.toks (Eg rs rs.toks (Az (Al (Al s))))))) {kind:=7,text:=x,kids:=[]++rs.kids (Az (Al (Al s))).out.length++[((plc a (Eg rs rs.toks (Az (Al (Al s)))):Nat):Int)]}=Eg (.call x (.snoc rs a)) (Tr.call x (.snoc rs a)).toks s:=by
      simp only[B4,BC,Eg,Az,Al,Tr.flat,Tr.toks,Tr.kids,B7.mk.injEq,AaT,Aax,AbH,Abh,plc,Tr.flat_len,Acb];exact⟨by omega,trivial,by omega⟩
     have e2:(Eg a a.toks (Eg rs rs.toks (Az (Al (Al s))))).out.length=plc (.call x (.snoc rs a)) s:=by
      simp only[Eg,Az,Al,plc,Tr.cnt,Aax,Tr.flat_len];omega
     rw[e,e2] at this;exact this
    ·rw[if_neg a3] at hp;rw[if_neg Aez];exact .ar_err hp
   ·rename_i ae;rw[if_neg Aez]
  ·rw[if_neg Aez]
   exact .pr_calldeep t1 (by rw[t2];exact a7) (by rw[t2];exact a8) a9 Aez
 | _,.nil,_=>by
  intro T s R x k0 r hs hl hr;have e:Eg Tr.nil Tr.nil.toks s=s:=by simp[Eg,Tr.toks,Tr.flat]
  rw[e,if_pos (by show s.deep+0≤12;omega)] at hr
  simpa[Tr.kids] using hr
 | _,.snoc rs a,hf=>by
  have gr:GoR rs:=go rs hf.1;have ga:GoT a:=go a hf.2;have ra:=Tr.rank_le a hf.2;intro T s R x k0 r hs hl hr;have hl:Left T s=rs.toks++(a.toks++(sg [44]::R)):=by rw[hl];simp[Tr.toks]
  have a0:(Tr.snoc rs a).need=max rs.need a.need:=rfl;rw[a0] at hr;refine gr T s _ x k0 r hs hl ?_
  split
  ·rename_i ae;have aa:Left T (Eg rs rs.toks s)=a.toks++(sg [44]::R):=B8 hl rfl;have hp:=ga.1 0 Aez T (Eg rs rs.toks s) _ hs aa (AaK 0 R);unfold JV at hp;have af:(Eg rs rs.toks s).deep=s.deep:=rfl;rw[af] at hp;by_cases a3:s.deep+a.need≤12
   ·rw[if_pos a3] at hp;rw[if_pos Aez] at hr;have ab:Left T (Eg a a.toks (Eg rs rs.toks s))=sg [44]::R:=B8 aa rfl;have ag:BR T (Eg a a.toks (Eg rs rs.toks s)) [44]=true:=by rw[CX ab];rfl
    refine .ar_go hp ag ?_;have e:Al (Eg a a.toks (Eg rs rs.toks s))=Eg (.snoc rs a) (Tr.snoc rs a).toks s:=by
     simp only[Eg,Al,Tr.flat,Tr.toks,B7.mk.injEq,AaT,Aax,AbH,Abh,Tr.flat_len];exact⟨by omega,trivial,trivial⟩
    have e2:k0++rs.kids s.out.length++[((plc a (Eg rs rs.toks s):Nat):Int)]=k0++(Tr.snoc rs a).kids s.out.length:=by
     simp only[Eg,plc,Tr.kids,Aax,Tr.flat_len,Abh]
    rw[e,e2];exact hr
   ·rw[if_neg a3] at hp;rw[if_neg Aez] at hr;subst hr;exact .ar_err hp
  ·rename_i ae;rw[if_neg Aez] at hr;exact hr
theorem Tr.again(t:Tr false)(hf:t.Fit){T:List As}(hT:T.map nA=t.toks++[Rz]):Ea T (if t.need≤12 then .ok (t.flat 0) else .error 6):=by
 have hg:=(t.go hf).1 0 (by have:=Tr.rank_le t hf;omega) T ⟨0,[],0⟩ [Rz] Ae7 hT (ZD 0);have hg:PE T (.lev 0) ⟨0,[],0⟩ (JV t.need t t.toks ⟨0,[],0⟩):=hg;unfold JV at hg;simp only[AbW] at hg;by_cases h:t.need≤12
 ·rw[if_pos h] at hg ⊢;refine⟨_,_,hg,?_,by simp[Eg]⟩;have:Left T (Eg t t.toks ⟨0,[],0⟩)=[Rz]:=B8 (s:=⟨0,[],0⟩) (w:=t.toks) hT rfl;exact(DD this).1
 ·rw[if_neg h] at hg ⊢;exact .inl hg
def W(l:List As):Nat:=(l.flatMap Ci).length
theorem Kk:W []=0:=rfl
theorem Dp(t:As)(l:List As):W (t::l)=(Ci t).length+W l:=by simp[W]
theorem Kj(l m:List As):W (l++m)=W l+W m:=by simp[W]
theorem Ng(s:List UInt8):(Ci (sg s)).length=s.length:=rfl
theorem XB(b:Bool)(l:List As):W (brk b l)=W l+if b then 2 else 0:=by
 cases b
 ·simp[brk]
 ·simp only[brk,if_true,Dp,Kj,Kk,Ng,AaT,AbH];omega
def pw(T:List As)(i:Nat):Nat:=W (T.take i)
theorem Aaf(T:List As)(i:Nat):pw T (i+1)=pw T i+(Ci (T.getD i Zf)).length:=by
 unfold pw;rcases Ac0 i T.length with h | h
 ·rw[Aco,Aak h,Kj,AaE,Aak h];simp[W]
 ·rw[AcC h,AcC Aez,AaE,AbK h];rfl
theorem CZ(T:List As)(s:B7):pw T (s.at_+1)=pw T s.at_+(Ci (Aa T s)).length:=Aaf T s.at_
theorem Ab1(T:List As)(i:Nat):pw T i≤W T:=by
 have:=Kj (T.take i) (T.drop i);rw[AdS] at this;unfold pw;omega
theorem I9(t:Tr false)(L:Nat):W (t.opt L)=W t.toks+if t.rank<L then 2 else 0:=by
 rw[Tr.opt,XB];by_cases h:t.rank<L<;>simp[h]
theorem AbP{t:As}(h:Gb t)(k:t.kind=1):t=⟨1,[],t.num,A6,0⟩∧0≤t.num∧t.num≤9223372036854775807:=by
 cases h<;>simp_all [sg]
theorem AbQ{t:As}(h:Gb t)(k:t.kind=2):t=⟨2,t.text,0,A6,0⟩∧Mv t.text=true:=by
 cases h<;>simp_all [sg]
theorem Ab7{t:As}(h:Gb t)(k:t.kind=3):t=⟨3,t.text,0,A6,0⟩∧KY t.text=true∧Bd t.text=false:=by
 cases h<;>simp_all [sg]
theorem Abc{t:As}(h:Gb t)(k:t.kind=4):t=⟨4,[],0,t.ref,0⟩∧AY t.ref=true:=by
 cases h<;>simp_all [sg]
theorem AbR{t:As}(h:Gb t)(k:t.kind=6):t=⟨6,[],0,A6,0⟩:=by
 cases h<;>simp_all [sg]
def Abj(T:List As):Prop:=∀t∈T,nA t=Rz∨Gb (nA t)
theorem GG{T:List As}(h:Abj T){s:B7}(hk:(Aa T s).kind≠0):Gb (nA (Aa T s)):=by
 rcases Ac0 s.at_ T.length with hl | hl
 ·have e:Aa T s=T[s.at_]:=by simp[Aa,Aak hl]
  rw[e] at hk ⊢;rcases h _ (AcF hl) with h | h
  ·have:(nA T[s.at_]).kind=0:=by rw[h];rfl
   exact absurd this hk
  ·exact h
 ·have e:Aa T s=Zf:=by simp[Aa,AbK hl]
  rw[e] at hk;exact absurd rfl hk
theorem FC{T:List As}{s:B7}{x:List UInt8}(h:BR T s x=true):(Ci (Aa T s)).length=x.length:=by
 obtain⟨h1,h2⟩:=E6 h;simp[Ci,h1,h2]
theorem S3:∀n,n<4→∀i,i<(AD n).length→9≤(Ay n).getD i 0∧(Ay n).getD i 0≤19∧Cf ((Ay n).getD i 0)=n+1∧FA ((Ay n).getD i 0)=(AD n).getD i []:=by decide
theorem Aaa{T:List As}{s:B7}{n i:Nat}(hn:n<4)(h:GS T s n=some i):9≤(Ay n).getD i 0∧(Ay n).getD i 0≤19∧Cf ((Ay n).getD i 0)=n+1∧(Ci (Aa T s)).length=(FA ((Ay n).getD i 0)).length:=by
 unfold GS at h
 split at h
 ·rename_i h5;obtain⟨hi,hp,_⟩:=Ac9.1 h;obtain⟨a1,a2,a3,a4⟩:=S3 n hn i hi;refine⟨a1,a2,a3,?_⟩;have ht:(AD n)[i]=(Aa T s).text:=by simpa using hp
  rw[a4,AaE,Aak hi];simp[Ci,h5,ht]
 ·cases h
structure Rt(T:List As)(L:Nat)(s s1:B7)(b:Nat)(t:Tr false):Prop where
 fit:t.Fit
 num:t.Num
 out:s1.out=s.out++t.flat s.out.length
 plc:b=s.out.length+t.cnt - 1
 deep:s1.deep=s.deep
 need:s.deep+Jh L t.rank t.need≤12
 wid:W (t.opt L)+pw T s.at_≤pw T s1.at_
structure Lt(T:List As)(n:Nat)(s s1:B7)(b:Nat)(o:List Ah)(ta t:Tr false):Prop where
 fit:t.Fit
 num:t.Num
 out:s1.out=o++t.flat o.length
 plc:b=o.length+t.cnt - 1
 deep:s1.deep=s.deep
 need:s.deep+Jh (n+1) t.rank t.need≤12
 wid:W (t.opt (n+1))+pw T s.at_≤W (ta.opt (n+1))+pw T s1.at_
structure At(T:List As)(s s1:B7)(b:Nat)(o:List Ah)(x:List UInt8)(rs:Tr true)(r1:Tr true)(a1:Tr false):Prop where
 fit:(Tr.call x (.snoc r1 a1)).Fit
 num:r1.Num∧a1.Num
 out:s1.out=o++(Tr.call x (.snoc r1 a1)).flat o.length
 plc:b=o.length+(Tr.call x (.snoc r1 a1)).cnt - 1
 deep:s1.deep=s.deep - 1
 need:s.deep+(Tr.snoc r1 a1).need≤12
 wid:W r1.toks+W a1.toks+1+pw T s.at_≤W rs.toks+pw T s1.at_
def Abm(T:List As)(m:Ef)(s:B7):Io→Prop
 | .err _=>True
 | .ok s1 b=>s.deep≤12→match m with
  | .lev n=>n<4→∃t,Rt T (n+1) s s1 b t
  | .unary=>∃t,Rt T 5 s s1 b t
  | .prim=>∃t,Rt T 6 s s1 b t
  | .loop n a=>n<4→∀o (ta:Tr false),ta.Fit→ta.Num→s.out=o++ta.flat o.length→a=o.length+ta.cnt - 1→s.deep+Jh (n+1) ta.rank ta.need≤12→∃t,Lt T n s s1 b o ta t
  | .args x ks=>∀o (rs:Tr true),CB x=true→rs.Fit→rs.Num→s.out=o++rs.flat o.length→ks=rs.kids o.length→s.deep+rs.need≤12→1≤s.deep→∃r1 a1,At T s s1 b o x rs r1 a1
theorem YE{L L' r d:Nat}(h:L≤L'):Jh L r d≤Jh L' r d:=by
 unfold Jh
 split<;>split<;>omega
theorem AaW(L r d:Nat):Jh L r d≤d+1:=by
 unfold Jh
 split<;>omega
theorem Q4(L r d:Nat):d≤Jh L r d:=by
 unfold Jh
 split<;>omega
theorem WN(t:Tr false){L L':Nat}(h:L≤L'):W (t.opt L)≤W (t.opt L'):=by
 rw[I9,I9]
 split<;>split<;>omega
theorem Rt.low{T:List As}{L L':Nat}{s s1:B7}{b:Nat}{t:Tr false}(h:Rt T L s s1 b t)(hl:L'≤L):Rt T L' s s1 b t:=
 ⟨h.fit,h.num,h.out,h.plc,h.deep,by have:=YE (r:=t.rank) (d:=t.need) hl;have:=h.need;omega,by have:=WN t hl;have:=h.wid;omega⟩
theorem Oy{T:List As}{n:Nat}(hn:n<4){s s1:B7}{a:Nat}(h:Abm T (below n) s (.ok s1 a))(hd:s.deep≤12):∃t,Rt T (n+2) s s1 a t:=by
 unfold below at h
 split at h
 ·exact h hd Aez
 ·have e:n=3:=Aez
  subst e;exact h hd
theorem Rt.leaf{T:List As}{s s1:B7}{n:Ah}(k:Int)(hkk:n.kind=k)(h0:1≤k)(h1:k≤6)(hk:n.kids=[])(hp:Ar n=true)(hn:∀k∈C9 n,k.num≤9223372036854775807)(hd:s.deep≤12)(ho:s1.out=s.out++[n])(hdd:s1.deep=s.deep)(hw:W (C9 n)+pw T s.at_≤pw T s1.at_):∃t,Rt T 6 s s1 s.out.length t:=by
 refine⟨.leaf n,⟨by omega,by omega,hk,hp⟩,hn,ho,by simp[Tr.cnt],hdd,hd,?_⟩;rw[I9]
 simpa[Tr.rank,Tr.toks] using hw
theorem V6{a:Tr false}(h:a.Num):(Tr.neg a).Num:=λk hk=>by
 simp only[Tr.toks,Acf] at hk;rcases hk with rfl | hk
 ·decide
 ·rcases FB hk with hk | rfl | rfl
  ·exact h k hk
  ·decide
  ·decide
theorem V7{o:Int}{a b:Tr false}(h:a.Num)(h':b.Num):(Tr.two o a b).Num:=λk hk=>by
 simp only[Tr.toks,AbB,Acf] at hk;rcases hk with hk | rfl | hk
 ·rcases FB hk with hk | rfl | rfl
  ·exact h k hk
  ·decide
  ·decide
 ·show(0:Int)≤_;decide
 ·rcases FB hk with hk | rfl | rfl
  ·exact h' k hk
  ·decide
  ·decide
theorem Sy{rs:Tr true}{a:Tr false}(h:rs.Num)(h':a.Num):(Tr.snoc rs a).Num:=λk hk=>by
 simp only[Tr.toks,AbB,Acf,Acn,or_false] at hk;rcases hk with hk | hk | rfl
 ·exact h k hk
 ·exact h' k hk
 ·decide
theorem St{x:List UInt8}{rs:Tr true}{a:Tr false}(h:rs.Num)(h':a.Num):(Tr.call x (.snoc rs a)).Num:=λk hk=>by
 simp only[Tr.toks,Acf,AbB,Acn,or_false] at hk;rcases hk with rfl | rfl | hk | hk | rfl
 ·show(0:Int)≤_;decide
 ·decide
 ·exact h k hk
 ·exact h' k hk
 ·decide
theorem PE.trees{T:List As}(hT:Abj T){m:Ef}{s:B7}{r:Io}(h:PE T m s r):Abm T m s r:=by
 induction h with
 | lev_err _ _=>trivial
 | @lev_ok n s s1 a r _ _ ih1 ih2=>
  cases r with
  | err e=>trivial
  | ok s2 b=>
   intro hd hn;obtain⟨t,h1⟩:=Oy hn ih1 hd;have h1:=h1.low (show n+1≤n+2 by omega);obtain⟨u,h2⟩:=ih2 (by rw[h1.deep];exact hd) hn s.out t h1.fit h1.num h1.out h1.plc (by rw[h1.deep];exact h1.need)
   exact⟨u,h2.fit,h2.num,h2.out,h2.plc,h2.deep.trans h1.deep,by rw[←h1.deep];exact h2.need,by have:=h1.wid;have:=h2.wid;omega⟩
 | @loop_end n s a _=>exact λhd hn o ta h1 h2 h3 h4 h5=>⟨ta,h1,h2,h3,h4,rfl,h5,Ab9 _⟩
 | loop_err _ _ _=>trivial
 | @loop_go n s a i s1 b r hi _ _ ih1 ih2=>
  cases r with
  | err e=>trivial
  | ok s2 c=>
   intro hd hn o ta h1 h2 h3 h4 h5;obtain⟨k0,k1,k2,k3⟩:=Aaa hn hi;obtain⟨tb,hb⟩:=Oy hn ih1 hd;have ag:s1.out=s.out++tb.flat s.out.length:=hb.out;have a9:s1.deep=s.deep:=hb.deep;have al:s.deep+Jh (n+2) tb.rank tb.need≤12:=hb.need;have ai:b=s.out.length+tb.cnt - 1:=hb.plc;have am:W (tb.opt (n+2))+pw T (s.at_+1)≤pw T s1.at_:=hb.wid;have a5:s.out.length=o.length+ta.cnt:=by rw[h3,Aax,Tr.flat_len]
   have a6:(Tr.two ((Ay n).getD i 0) ta tb).need=max (Jh (n+1) ta.rank ta.need) (Jh (n+2) tb.rank tb.need):=by simp only[Tr.need,k2]
   have a2:(Tr.two ((Ay n).getD i 0) ta tb).rank=n+1:=k2;have aa:Jh (n+1) (Tr.two ((Ay n).getD i 0) ta tb).rank (Tr.two ((Ay n).getD i 0) ta tb).need=max (Jh (n+1) ta.rank ta.need) (Jh (n+2) tb.rank tb.need):=by
    unfold Jh;rw[a2,if_neg Aez,a6];rfl
   have hW:W ((Tr.two ((Ay n).getD i 0) ta tb).opt (n+1))=W (ta.opt (n+1))+(FA ((Ay n).getD i 0)).length+W (tb.opt (n+2)):=by
    have e2:tb.opt (n+2)=brk (decide (tb.rank<n+1+1)) tb.toks:=rfl;have e1:ta.opt (n+1)=brk (decide (ta.rank<n+1)) ta.toks:=rfl;rw[I9,a2,if_neg Aez,e1,e2];simp only[Tr.toks,Kj,Dp,Ng,k2];omega
   have a0:=CZ T s;obtain⟨t,h⟩:=ih2 (by show s1.deep≤12;omega) hn o (.two ((Ay n).getD i 0) ta tb) ⟨k0,k1,h1,hb.fit⟩ (V7 h2 hb.num) (by
    show s1.out++[_]=_;rw[ag,ai,h3,h4];simp only[Tr.flat,Abh,Aax,Tr.flat_len]) (by
    show s1.out.length=_;rw[ag,Aax,Tr.flat_len,a5];simp only[Tr.cnt];omega) (by
    show s1.deep+_≤12;rw[aa,a9];omega)
   have e1:(B4 s1 {kind:=(Ay n).getD i 0,kids:=[(a:Int),(b:Int)]}).deep=s1.deep:=rfl;have e2:(B4 s1 {kind:=(Ay n).getD i 0,kids:=[(a:Int),(b:Int)]}).at_=s1.at_:=rfl;refine⟨t,h.fit,h.num,h.out,h.plc,by rw[h.deep,e1,a9],by have:=h.need;rw[e1,a9] at this;exact this,?_⟩;have:=h.wid;rw[e2,hW] at this
   omega
 | @un_prim s r _ _ ih=>
  cases r with
  | err e=>trivial
  | ok s2 b=>
   intro hd;obtain⟨t,h⟩:=ih hd
   exact⟨t,h.low Aez⟩
 | un_deep _ _=>trivial
 | un_err _ _ _ _=>trivial
 | @un_ok s s1 a hi hd _ ih=>
  intro _;obtain⟨t,h⟩:=ih AeQ;have ho:s1.out=s.out++t.flat s.out.length:=h.out;have a7:s1.deep=s.deep+1:=h.deep;have a8:s.deep+1+Jh 5 t.rank t.need≤12:=h.need;have hp:a=s.out.length+t.cnt - 1:=h.plc;have hw:W (t.opt 5)+pw T (s.at_+1)≤pw T s1.at_:=h.wid;have a0:=CZ T s;have hc:=FC hi;simp only[AaT,AbH] at hc;refine⟨.neg t,h.fit,V6 h.num,?_,?_,?_,?_,?_⟩
  ·show s1.out++[_]=_;rw[ho,hp];simp only[Tr.flat,Abh]
  ·rw[ho,Aax,Tr.flat_len];simp only[Tr.cnt];omega
  ·show s1.deep - 1=s.deep;omega
  ·have:Jh 5 (Tr.neg t).rank (Tr.neg t).need=Jh 5 t.rank t.need+1:=rfl;rw[this];omega
  ·have:W ((Tr.neg t).opt 5)=1+W (t.opt 5):=by
    rw[I9 (.neg t)];simp only[Tr.rank,Tr.toks,Dp,Ng,Tr.opt,AaT,AbH];rfl
   rw[this];show _≤pw T s1.at_
   omega
 | pr_sign _ _=>trivial
 | pr_deep _ _=>trivial
 | pr_err _ _ _ _=>trivial
 | pr_open _ _ _ _ _=>trivial
 | @pr_ok s s1 a hi hd _ a4 ih=>
  intro _;obtain⟨t,h⟩:=ih AeQ Aez;have a7:s1.deep=s.deep+1:=h.deep;have a8:s.deep+1+Jh 1 t.rank t.need≤12:=h.need;have hw:W (t.opt 1)+pw T (s.at_+1)≤pw T s1.at_:=h.wid;have a0:=CZ T s;have a3:=CZ T s1;have hc:=FC hi;have ab:=FC a4;simp only[AaT,AbH] at hc ab;refine⟨t,h.fit,h.num,h.out,h.plc,?_,?_,?_⟩
  ·show s1.deep - 1=s.deep;omega
  ·have:=AaW 6 t.rank t.need;have:=Q4 1 t.rank t.need;omega
  ·show _≤pw T (s1.at_+1);rw[I9] at hw ⊢
   split<;>omega
 | pr_end _=>trivial
 | @pr_num s h=>
  intro hd;obtain⟨e,h0,h1⟩:=AbP (GG hT (s:=s) Aez) h;have a0:=CZ T s;have ek:C9 {kind:=1,num:=(Aa T s).num}=[nA (Aa T s)]:=by rw[e];rfl
  refine Rt.leaf 1 rfl Ae2 Ae2 rfl (CN (by show decide (0≤(Aa T s).num)=true;exact decide_eq_true h0) ⟨rfl,rfl,rfl,rfl⟩) (by rw[ek];intro k hk;rw[Aaw.1 hk];exact h1) hd rfl rfl ?_;rw[ek,Dp,Kk,Jr];show _≤pw T (s.at_+1)
  omega
 | @pr_text s h=>
  intro hd;obtain⟨e,h0⟩:=AbQ (GG hT (s:=s) Aez) h;have a0:=CZ T s;have ek:C9 {kind:=2,text:=(Aa T s).text}=[nA (Aa T s)]:=by rw[e];rfl
  refine Rt.leaf 2 rfl Ae2 Ae2 rfl (CN (by show Mv (Aa T s).text=true;exact h0) ⟨rfl,rfl,rfl,rfl⟩) AeV hd rfl rfl ?_;rw[ek,Dp,Kk,Jr];show _≤pw T (s.at_+1)
  omega
 | @pr_dead s h=>
  intro hd;have e:=AbR (GG hT (s:=s) Aez) h;have a0:=CZ T s;have ek:C9 {kind:=4}=[nA (Aa T s)]:=by rw[e];rfl
  refine Rt.leaf 4 rfl Ae2 Ae2 rfl rfl AeV hd rfl rfl ?_;rw[ek,Dp,Kk,Jr];show _≤pw T (s.at_+1)
  omega
 | @pr_ref s h _=>
  intro hd;obtain⟨e,h0⟩:=Abc (GG hT (s:=s) Aez) h;have a0:=CZ T s;have ek:C9 {kind:=5,ref:=(Aa T s).ref}=[nA (Aa T s)]:=by rw[e];rfl
  refine Rt.leaf 5 rfl Ae2 Ae2 rfl (CN (by show AY (Aa T s).ref=true;exact h0) ⟨rfl,rfl,rfl,rfl⟩) AeV hd rfl rfl ?_;rw[ek,Dp,Kk,Jr];show _≤pw T (s.at_+1)
  omega
 | @pr_range s h hi h' hr=>
  intro hd;obtain⟨e,h0⟩:=Abc (GG hT (s:=s) Aez) h;obtain⟨e',ac⟩:=Abc (GG hT (s:=Al (Al s)) Aez) h';have a0:=CZ T s;have a3:pw T (s.at_+1+1)=pw T (s.at_+1)+(Ci (Aa T (Al s))).length:=CZ T (Al s);have ad:pw T (s.at_+1+1+1)=pw T (s.at_+1+1)+(Ci (Aa T (Al (Al s)))).length:=CZ T (Al (Al s));have hc:=FC hi;simp only[AaT,AbH] at hc;have ek:C9 {kind:=6,ref:=(Aa T s).ref,to:=(Aa T (Al (Al s))).ref}=[nA (Aa T s),sg [58],nA (Aa T (Al (Al s)))]:=by rw[e,e'];rfl
  refine Rt.leaf 6 rfl Ae2 Ae2 rfl (CN (by show(AY (Aa T s).ref&&(AY (Aa T (Al (Al s))).ref&&Bw (Aa T s).ref (Aa T (Al (Al s))).ref))=true;have h0:AY (Aa T s).ref=true:=h0;have ac:AY (Aa T (Al (Al s))).ref=true:=ac;rw[h0,ac,hr];rfl) ⟨rfl,rfl,rfl,rfl⟩) (by
   rw[ek];intro k hk;simp only[Acf,Acn,or_false] at hk;rcases hk with rfl | rfl | rfl
   ·rw[e];show(0:Int)≤9223372036854775807;decide
   ·decide
   ·rw[e'];show(0:Int)≤9223372036854775807;decide) hd rfl rfl ?_
  rw[ek,Dp,Dp,Dp,Kk,Jr,Jr,Ng];show _≤pw T (s.at_+1+1+1);simp only[AaT,AbH]
  omega
 | pr_norange _ _ _=>trivial
 | @pr_true s h h1=>
  intro hd;have a0:=CZ T s;have hl:(Ci (Aa T s)).length=4:=by simp[Ci,h,h1,Db]
  refine Rt.leaf 3 rfl Ae2 Ae2 rfl rfl Ae2 hd rfl rfl ?_;have:W (C9 {kind:=3,num:=1})=4:=rfl;rw[this];show _≤pw T (s.at_+1)
  omega
 | @pr_false s h h1=>
  intro hd;have a0:=CZ T s;have hl:(Ci (Aa T s)).length=5:=by simp[Ci,h,h1,CL]
  refine Rt.leaf 3 rfl Ae2 Ae2 rfl rfl Ae2 hd rfl rfl ?_;have:W (C9 {kind:=3})=5:=rfl;rw[this];show _≤pw T (s.at_+1)
  omega
 | pr_nocall _ _ _ _=>trivial
 | pr_calldeep _ _ _ _ _=>trivial
 | @pr_call0 s h h1 h2 ae hd a4=>
  intro _;obtain⟨e,f0,f1⟩:=Ab7 (GG hT (s:=s) Aez) h;have hn:CB (Aa T s).text=true:=by
   have f0:KY (Aa T s).text=true:=f0;have f1:Bd (Aa T s).text=false:=f1;simp[CB,f0,f1,h1,h2]
  have a0:=CZ T s;have a3:pw T (s.at_+1+1)=pw T (s.at_+1)+(Ci (Aa T (Al s))).length:=CZ T (Al s);have ad:pw T (s.at_+1+1+1)=pw T (s.at_+1+1)+(Ci (Aa T (Az (Al (Al s))))).length:=CZ T (Az (Al (Al s)));have hc:=FC ae;have ab:=FC a4;have hx:(Ci (Aa T s)).length=(Aa T s).text.length:=by simp[Ci,h]
  simp only[AaT,AbH] at hc ab;refine⟨.call (Aa T s).text .nil,⟨hn,trivial⟩,?_,rfl,by simp[Tr.cnt],rfl,?_,?_⟩
  ·intro k hk;simp only[Tr.toks,Acf,Acn,or_false] at hk;rcases hk with rfl | rfl | rfl
   ·show(0:Int)≤_;decide
   ·decide
   ·decide
  ·show s.deep+1≤12;omega
  ·rw[I9];simp only[Tr.rank,Tr.toks,Dp,Kk,Ng,AaT,AbH];show(Aa T s).text.length+_+_+_≤pw T (s.at_+1+1+1);simp
   omega
 | @pr_call s r h h1 h2 ae hd a4 _ ih=>
  cases r with
  | err e=>trivial
  | ok s2 b=>
   intro _;obtain⟨e,f0,f1⟩:=Ab7 (GG hT (s:=s) Aez) h;have hn:CB (Aa T s).text=true:=by
    have f0:KY (Aa T s).text=true:=f0;have f1:Bd (Aa T s).text=false:=f1;simp[CB,f0,f1,h1,h2]
   obtain⟨r1,a1,hh⟩:=ih AeQ s.out .nil hn trivial (λk hk=>by cases hk) (by simp[Tr.flat,Az,Al]) rfl (by show s.deep+1+0≤12;omega) (by show 1≤s.deep+1;omega);have a0:=CZ T s;have a3:pw T (s.at_+1+1)=pw T (s.at_+1)+(Ci (Aa T (Al s))).length:=CZ T (Al s);have hc:=FC ae;have hx:(Ci (Aa T s)).length=(Aa T s).text.length:=by simp[Ci,h]
   simp only[AaT,AbH] at hc;have a8:s.deep+1+(Tr.snoc r1 a1).need≤12:=hh.need;have hw:W r1.toks+W a1.toks+1+pw T (s.at_+1+1)≤0+pw T s2.at_:=hh.wid;have a7:s2.deep=s.deep+1 - 1:=hh.deep;refine⟨.call (Aa T s).text (.snoc r1 a1),hh.fit,St hh.num.1 hh.num.2,hh.out,hh.plc,by omega,?_,?_⟩
   ·show s.deep+((Tr.snoc r1 a1).need+1)≤12;omega
   ·rw[I9];simp only[Tr.rank,Tr.toks,Dp,Kj,Kk,Ng,AaT,AbH];show(Aa T s).text.length+_+_+_≤_;simp
    omega
 | ar_err _ _=>trivial
 | @ar_go x ks s s1 a r _ ah _ ih1 ih2=>
  cases r with
  | err e=>trivial
  | ok s2 b=>
   intro hd o rs hx h1 h2 h3 h4 h5 h6;obtain⟨t,h⟩:∃t,Rt T 1 s s1 a t:=ih1 hd Aez;have aj:=Q4 1 t.rank t.need;have a8:=h.need;have a7:=h.deep;have a5:s.out.length=o.length+rs.cnt:=by rw[h3,Aax,Tr.flat_len]
   obtain⟨r1,a1,hh⟩:=ih2 (by show s1.deep≤12;omega) o (.snoc rs t) hx ⟨h1,h.fit⟩ (Sy h2 h.num) (by
    show s1.out=_;rw[h.out,h3];simp only[Tr.flat,Abh,Aax,Tr.flat_len]) (by
    rw[h4,h.plc,a5];simp only[Tr.kids]) (by
    show s1.deep+max rs.need t.need≤12;omega) (by show 1≤s1.deep;omega)
   have af:W (t.opt 1)+pw T s.at_≤pw T s1.at_:=h.wid;have ak:W r1.toks+W a1.toks+1+pw T (s1.at_+1)≤W (Tr.snoc rs t).toks+pw T s2.at_:=hh.wid;have a0:=CZ T s1;have hc:=FC ah;simp only[AaT,AbH] at hc;have an:s2.deep=s1.deep - 1:=hh.deep;have ao:s1.deep+(Tr.snoc r1 a1).need≤12:=hh.need;refine⟨r1,a1,hh.fit,hh.num,hh.out,hh.plc,by omega,by omega,?_⟩;rw[I9] at af;simp only[Tr.toks,Kj,Dp,Kk,Ng,AaT,AbH] at ak
   omega
 | ar_open _ _ _ _=>trivial
 | @ar_end x ks s s1 a _ ah a4 ih=>
  intro hd o rs hx h1 h2 h3 h4 h5 h6;obtain⟨t,h⟩:∃t,Rt T 1 s s1 a t:=ih hd Aez;have aj:=Q4 1 t.rank t.need;have a8:=h.need;have a7:=h.deep;have a5:s.out.length=o.length+rs.cnt:=by rw[h3,Aax,Tr.flat_len]
  have af:W (t.opt 1)+pw T s.at_≤pw T s1.at_:=h.wid;have a0:=CZ T s1;have hc:=FC a4;simp only[AaT,AbH] at hc;refine⟨rs,t,⟨hx,h1,h.fit⟩,⟨h2,h.num⟩,?_,?_,by show s1.deep - 1=s.deep - 1;omega,?_,?_⟩
  ·show s1.out++[_]=_;rw[h.out,h3,h4,h.plc,a5];simp only[Tr.flat,Tr.kids,Abh,Aax,Tr.flat_len]
  ·rw[h.out,h3];simp only[Aax,Tr.flat_len,Tr.cnt];omega
  ·show s.deep+max rs.need t.need≤12;omega
  ·show _≤_+pw T (s1.at_+1);rw[I9] at af;omega
theorem Xc{s:List UInt8}{T:List As}{l:List Ah}(h:Ii s=some T)(hp:Ea T (.ok l)):∃t:Tr false,t.Fit∧t.Num∧t.flat 0=l∧t.need≤12∧t.text.length≤s.length:=by
 obtain⟨hC,hw⟩:=RM _ s 0 (Ab9 _) h;obtain⟨s1,a,a0,_,ho⟩:=hp;obtain⟨t,ht⟩:=(a0.trees hC) Ae7 Aez;have h1:=ht.out;have h2:=ht.need;have h3:=ht.wid;have h4:=Q4 1 t.rank t.need;have h5:=Ab1 T s1.at_;rw[I9] at h3;have h6:W T≤s.length:=hw;refine⟨t,ht.fit,ht.num,by rw[←ho,h1];rfl,by simp only[AbW] at h2;omega,?_⟩;show W t.toks≤_;omega
noncomputable def AH(s:List UInt8):Except Int (List Ah):=open Classical in
 if 300<s.length then .error 4 else match Ii s with
 | none=>.error 5
 | some T=>if h:∃o,Ea T o then h.choose else .error 0
theorem FR{s:List UInt8}{T:List As}{o:Except Int (List Ah)}(h300:s.length≤300)(hl:Ii s=some T)(hp:Ea T o):AH s=o:=by
 unfold AH;rw[if_neg Aez,hl];have hx:∃o,Ea T o:=⟨o,hp⟩;simp only;rw[dif_pos hx];exact hx.choose_spec.det hp
theorem Ex.res{s:List UInt8}{v:Value}{w:World}{lo:Nat}(h:Ex s v w lo):Abo w lo v (AH s):=by
 unfold Ex at h;by_cases h1:300<s.length
 ·rw[if_pos h1] at h;have:AH s=.error 4:=by unfold AH;rw[if_pos h1]
  rw[this];exact h
 ·rw[if_neg h1] at h
  cases e:Ii s with
  | none=>
   rw[e] at h;have:AH s=.error 5:=by unfold AH;rw[if_neg h1,e]
   rw[this];exact h
  | some T=>
   rw[e] at h;obtain⟨o,hp,hr⟩:=h;rw[FR Aez e hp];exact hr
theorem Px{s:List UInt8}{l:List Ah}(h:AH s=.ok l):s.length≤300∧∃t:Tr false,t.Fit∧t.Num∧t.flat 0=l∧t.need≤12∧t.text.length≤s.length:=by
 unfold AH at h
 split at h
 ·cases h
 ·rename_i h1
  split at h
  ·cases h
  ·rename_i T e
   split at h
   ·rename_i hx;have:=hx.choose_spec;rw[h] at this;exact⟨by omega,Xc e this⟩
   ·cases h
theorem G9(t:Tr false)(hf:t.Fit)(hn:t.Num):AH t.text=if 300<t.text.length then .error 4 else if t.need≤12 then .ok (t.flat 0) else .error 6:=by
 obtain⟨T,h1,h2⟩:=t.lex hf hn;by_cases h3:300<t.text.length
 ·rw[if_pos h3];unfold AH;rw[if_pos h3]
 ·rw[if_neg h3];exact FR Aez h1 (t.again hf h2)
def DA(o:Nat):Tr false→Ah
 | .leaf n=>n
 | .neg a=>{kind:=8,kids:=[((o+a.cnt - 1:Nat):Int)]}
 | .two k a b=>{kind:=k,kids:=[((o+a.cnt - 1:Nat):Int),((o+a.cnt+b.cnt - 1:Nat):Int)]}
 | .call x ks=>{kind:=7,text:=x,kids:=ks.kids o}
def Rn(o:Nat):Tr false→List Ah
 | .leaf _=>[]
 | .neg a=>a.flat o
 | .two _ a b=>a.flat o++b.flat (o+a.cnt)
 | .call _ ks=>ks.flat o
theorem DC(o:Nat)(t:Tr false):t.flat o=Rn o t++[DA o t]:=by
 cases t with
 | leaf n=>rfl
 | neg a=>rfl
 | two k a b=>rfl
 | call x ks=>rfl
theorem XN(o:Nat)(t:Tr false):(Rn o t).length+1=t.cnt:=by
 have:=congrArg List.length (DC o t)
 simpa[Tr.flat_len] using this.symm
theorem KR{α:Type}{a b:List α}{x y:α}(h:a++[x]=b++[y]):a=b∧x=y:=by
 have:=List.append_inj' h rfl;exact⟨this.1,by simpa using this.2⟩
theorem NH:∀(ks:Tr true) (o o':Nat),(ks.kids o).length=(ks.kids o').length
 | .nil,_,_=>rfl
 | .snoc rs a,o,o'=>by simp[Tr.kids,NH rs o o']
theorem Tr.inj:∀{b:Bool} (t u:Tr b),t.Fit→u.Fit→∀l m:List Ah,l++t.flat l.length=m++u.flat m.length→(b=false∨(t.kids 0).length=(u.kids 0).length)→t=u∧l=m
 | _,.leaf n,u,hf,hu,l,m,h,_=>by
  rw[DC _ u,←List.append_assoc] at h;obtain⟨h1,h2⟩:=KR (a:=l) h
  cases u with
  | leaf n'=>exact⟨by rw[show n=n' from h2],by simpa[Rn] using h1⟩
  | neg a=>have:=hf.2.1;rw[h2] at this;simp[DA] at this
  | two k a b=>have:=hf.2.1;have:=hu.1;rw[h2] at *;simp[DA] at *;omega
  | call x ks=>have:=hf.2.1;rw[h2] at this;simp[DA] at this
 | _,.neg a,u,hf,hu,l,m,h,_=>by
  rw[DC _ u,DC _ (.neg a),←List.append_assoc,←List.append_assoc] at h;obtain⟨h1,h2⟩:=KR h
  cases u with
  | leaf n'=>have:=hu.2.1;rw[←show DA l.length (.neg a)=n' from h2] at this;simp[DA] at this
  | neg a'=>
   obtain⟨e1,e2⟩:=inj a a' hf hu l m h1 (.inl rfl)
   exact⟨by rw[e1],e2⟩
  | two k a b=>have:=hu.1;have h3:=congrArg Ah.kind h2;simp[DA] at h3;omega
  | call x ks=>have h3:=congrArg Ah.kind h2;simp[DA] at h3
 | _,.two k a b,u,hf,hu,l,m,h,_=>by
  rw[DC _ u,DC _ (.two k a b),←List.append_assoc,←List.append_assoc] at h;obtain⟨h1,h2⟩:=KR h;have h3:=congrArg Ah.kind h2;have hk:=hf.1
  cases u with
  | leaf n'=>have:=hu.2.1;simp[DA] at h3;omega
  | neg a'=>simp[DA] at h3;omega
  | two k' a' b'=>
   simp only[Rn] at h1;rw[←List.append_assoc,←List.append_assoc] at h1;have e:l.length+a.cnt=(l++a.flat l.length).length:=by simp[Tr.flat_len]
   have e':m.length+a'.cnt=(m++a'.flat m.length).length:=by simp[Tr.flat_len]
   rw[e,e'] at h1;obtain⟨q1,q2⟩:=inj b b' hf.2.2.2 hu.2.2.2 _ _ h1 (.inl rfl);obtain⟨q3,q4⟩:=inj a a' hf.2.2.1 hu.2.2.1 l m q2 (.inl rfl);refine⟨?_,q4⟩
   rw[q1,q3,show k=k' from h3]
  | call x ks=>simp[DA] at h3;omega
 | _,.call x ks,u,hf,hu,l,m,h,_=>by
  rw[DC _ u,DC _ (.call x ks),←List.append_assoc,←List.append_assoc] at h;obtain⟨h1,h2⟩:=KR h;have h3:=congrArg Ah.kind h2
  cases u with
  | leaf n'=>have:=hu.2.1;simp[DA] at h3;omega
  | neg a'=>simp[DA] at h3
  | two k a b=>have:=hu.1;simp[DA] at h3;omega
  | call x' ks'=>
   have h4:=congrArg (λn=>n.kids.length) h2;simp only[DA] at h4;obtain⟨q1,q2⟩:=inj ks ks' hf.2 hu.2 l m h1 (.inr (by rw[NH ks 0 l.length,NH ks' 0 m.length];exact h4));have h5:=congrArg Ah.text h2;refine⟨?_,q2⟩
   rw[q1,show x=x' from h5]
 | _,.nil,u,_,_,l,m,h,hk=>by
  rcases u.snoc_form with rfl | ⟨rs,a,rfl⟩
  ·exact⟨rfl,by simpa[Tr.flat] using h⟩
  ·simp[Tr.kids] at hk
 | _,.snoc rs a,u,hf,hu,l,m,h,hk=>by
  rcases u.snoc_form with rfl | ⟨rs',a',rfl⟩
  ·simp[Tr.kids] at hk
  ·simp only[Tr.flat] at h;rw[←List.append_assoc,←List.append_assoc] at h;have e:l.length+rs.cnt=(l++rs.flat l.length).length:=by simp[Tr.flat_len]
   have e':m.length+rs'.cnt=(m++rs'.flat m.length).length:=by simp[Tr.flat_len]
   rw[e,e'] at h;obtain⟨q1,q2⟩:=inj a a' hf.2 hu.2 _ _ h (.inl rfl);obtain⟨q3,q4⟩:=inj rs rs' hf.1 hu.1 l m q2 (.inr (by simpa[Tr.kids] using hk));exact⟨by rw[q1,q3],q4⟩
theorem Tr.goes:∀{b:Bool} (t:Tr b),t.Fit→∀(o:Nat) (st:List Int),Bv o st (t.flat o)=some (st++(if b then t.kids o else[((o+t.cnt - 1:Nat):Int)]))
 | _,.leaf n,hf,o,st=>by
  have hc:F3 n=n.kids.length:=by
   have h1:=hf.1;have h2:=hf.2.1;have a0:BJ n.kind=0:=by
    unfold BJ;rw[if_neg Aez,if_neg Aez,if_neg Aez,if_neg Aez]
   rw[hf.2.2.1,F3,a0];rfl
  have:=IM (l:=[]) (i:=o) (st:=st) (st':=st) (ks:=[]) (by simp[Bv]) hf.2.2.1 hc hf.2.2.2
  simpa[Tr.cnt,Tr.flat] using this
 | _,.neg a,hf,o,st=>by
  have h:=goes a hf o st;have:=IM (ks:=[((o+a.cnt - 1:Nat):Int)]) (n:={kind:=8,kids:=[((o+a.cnt - 1:Nat):Int)]}) h rfl rfl rfl;rw[Tr.flat_len] at this
  simpa[Tr.cnt,Tr.flat] using this
 | _,.two k a b,hf,o,st=>by
  have h1:=goes a hf.2.2.1 o st;have h2:=goes b hf.2.2.2 (o+a.cnt) (st++[((o+a.cnt - 1:Nat):Int)]);have hn:=OI hf.1 hf.2.1 ((o+a.cnt - 1:Nat):Int) ((o+a.cnt+b.cnt - 1:Nat):Int);have h3:Bv o st (a.flat o++b.flat (o+a.cnt))=some (st++[((o+a.cnt - 1:Nat):Int),((o+a.cnt+b.cnt - 1:Nat):Int)]):=by
   rw[Ee,h1];simp only[Acx,if_false,AcJ,Tr.flat_len];simp only[Acx,if_false] at h2;rw[h2];simp
  have:=IM (n:={kind:=k,kids:=[((o+a.cnt - 1:Nat):Int),((o+a.cnt+b.cnt - 1:Nat):Int)]}) h3 rfl hn.1 hn.2;simp only[Aax,Tr.flat_len] at this;simp only[Tr.flat,this,Tr.cnt]
  simp
 | _,.call x ks,hf,o,st=>by
  have h:=goes ks hf.2 o st;simp only[if_true] at h;have hn:=IX hf.1 (ks.kids o);have:=IM (n:={kind:=7,text:=x,kids:=ks.kids o}) h rfl hn.1 hn.2;rw[Tr.flat_len] at this
  simpa[Tr.cnt,Tr.flat] using this
 | _,.nil,_,o,st=>by simp[Bv,Tr.flat,Tr.kids]
 | _,.snoc rs a,hf,o,st=>by
  have h1:=goes rs hf.1 o st;have h2:=goes a hf.2 (o+rs.cnt) (st++rs.kids o);simp only[if_true] at h1;simp only[Acx,if_false] at h2;simp only[Tr.flat,Tr.kids,Ee,h1,AcJ,Tr.flat_len,h2,if_true];simp
theorem Tr.tree(t:Tr false)(hf:t.Fit):BV (t.flat 0)=true:=by
 have:=t.goes hf 0 [];simp only[Acb,Acx,if_false] at this;rw[BV,this];rfl
noncomputable def BF(l:List Ah):List UInt8:=open Classical in if h:∃t:Tr false,t.Fit∧t.flat 0=l then h.choose.text else[]
theorem FT{t:Tr false}(hf:t.Fit):BF (t.flat 0)=t.text:=by
 unfold BF;have hx:∃u:Tr false,u.Fit∧u.flat 0=t.flat 0:=⟨t,hf,rfl⟩;rw[dif_pos hx];obtain⟨h1,h2⟩:=hx.choose_spec;rw[(Tr.inj _ t h1 hf [] [] Afj (.inl rfl)).1]
theorem LM{l:List Ah}(h:BV l=false):BF l=[]:=by
 unfold BF;rw[dif_neg];rintro⟨t,hf,rfl⟩;rw[t.tree hf] at h;cases h
theorem GA{s:List UInt8}{l:List Ah}(h:AH s=.ok l):AH (BF l)=.ok l∧(BF l).length≤s.length∧BV l=true∧∃t:Tr false,t.Fit∧t.Num∧t.flat 0=l∧BF l=t.text:=by
 obtain⟨h3,t,hf,hn,rfl,hd,hl⟩:=Px h;rw[FT hf,G9 t hf hn,if_neg Aez,if_pos hd];exact⟨rfl,hl,t.tree hf,t,hf,hn,rfl,rfl⟩
theorem LN(s:List UInt8):(Ed s).length≤2*s.length+2:=by
 have:∀s:List UInt8,(s.flatMap (λc=>if c=(34:UInt8) then[34,34] else[c])).length≤2*s.length:=by
  intro s
  induction s with
  | nil=>simp
  | cons c s ih=>
   simp only[Ac7,Aax,AaT];by_cases h:c=34
   ·rw[if_pos h];simp only[AaT,AbH];omega
   ·rw[if_neg h];simp only[AaT,AbH];omega
 have:=this s;simp only[Ed,AaT,Aax,AbH];omega
theorem LX{r:C3}(h:AY r=true):(BN r).length≤r.sheet.length+10:=by
 obtain⟨_,_,_,r0,r1⟩:=DE h;have h1:=(G3 (z:=r.row+1) Aez Aez).2.2.1;have h2:=Iv r.col;have h3:=FD r.ac;have h4:=FD r.ar;unfold BN
 split<;>simp only[Aax,AaT,AbH]<;>omega
theorem Mc.get{w:World}{lo:Nat}{sv:Value}{l:List Ah}(h:Mc w lo sv l)(hn:0<l.length) :
  ∃(g cap:Nat) (nvs:List NV) (sp:List Value),sv=.slice (some ⟨g,0,none⟩) l.length cap∧Blk w g (nvs.flatMap Bz++sp) 139∧nvs.map NV.node=l∧∀x∈nvs,Bm w x.kv x.node.kids:=by
 obtain⟨nvs,ho,hm,hk⟩:=h;have hl:nvs.length=l.length:=by rw[←hm];simp
 obtain⟨g,cap,sp,rfl,hB,_⟩:=ho.get Aez;exact⟨g,cap,nvs,sp,by rw[hl],hB,hm,hk⟩
theorem WF{nvs:List NV}{l:List Ah}(hm:nvs.map NV.node=l){i:Nat}{nd:Ah}(h:l[i]?=some nd):∃kv,nvs[i]?=some ⟨nd,kv⟩:=by
 rw[←hm,AbA] at h
 cases e:nvs[i]? with
 | none=>rw[e] at h;cases h
 | some x=>
  rw[e] at h;simp only[AbZ,Aa3] at h;exact⟨x.kv,by rw[←h]⟩
theorem QI{i:Nat}{st st':List Int}{n:Ah}(h:Dn i st n=some st'):n.kids.length≤st.length∧st'.length≤st.length+1:=by
 unfold Dn at h
 split at h
 ·rename_i hc;simp only[Aa3] at h;subst h;exact⟨hc.2.1,by simp⟩
 ·cases h
theorem M3:∀(l:List Ah) (i:Nat) (st st':List Int),Bv i st l=some st'→∀n∈l,n.kids.length≤st.length+l.length
 | [],_,_,_,_,_,hn=>absurd hn Ae7
 | m::t,i,st,st',h,n,hn=>by
  rw[Bv] at h
  cases e:Dn i st m with
  | none=>rw[e] at h;cases h
  | some s1=>
   rw[e] at h;obtain⟨h1,h2⟩:=QI e;rcases Acf.1 hn with rfl | hn
   ·simp;omega
   ·have:=M3 t (i+1) s1 st' h n hn;simp;omega
theorem Kc{l:List Ah}(h:BV l=true):∀n∈l,n.kids.length≤l.length:=by
 unfold BV at h
 split at h
 ·rename_i st e;intro n hn;have:=M3 l 0 [] st e n hn
  simpa using this
 ·cases h
theorem Mc.row{w:World}{lo:Nat}{sv:Value}{l:List Ah}(h:Mc w lo sv l)(hl:l.length≤100000)(hk:∀n∈l,n.kids.length≤100000):Cg w sv l:=by
 refine⟨hl,?_⟩;by_cases h0:l.length=0
 ·have a1:l=[]:=AbX h0;subst a1;obtain⟨nvs,ho,hm,_⟩:=h;have a2:nvs=[]:=by simpa using hm
  subst a2;obtain⟨_,⟨e,_⟩ | ⟨g,cap,sp,e,hB,_⟩⟩:=ho
  ·exact .inl ⟨e,rfl⟩
  ·exact .inr ⟨_,cap,e,λi nd hi=>by simp at hi⟩
 ·obtain⟨g,cap,nvs,sp,rfl,hB,hm,a0⟩:=h.get Aez;refine .inr ⟨_,cap,rfl,λi nd hi=>?_⟩;obtain⟨kv,hg⟩:=WF hm hi;refine⟨kv,⟨by have:=hk nd (Aa9 hi);omega,?_⟩,λj u hu=>?_⟩
  ·rcases a0 _ (Aa9 hg) with ⟨e1,e2⟩ | ⟨b',cap',sp',e1,a3⟩
   ·exact .inl ⟨e1,e2⟩
   ·refine .inr ⟨_,cap',e1,λj z hz=>a3.getElem _ _ ?_⟩;rw[Abg (by
     rw[AA];rcases Ac0 j nd.kids.length with h | h
     ·exact h
     ·rw[AbK h] at hz;cases hz)]
    exact HG hz
  ·have hj:j<14:=by
    rcases Ac0 j 14 with h | h
    ·exact h
    ·rw[AbK (by rw[YA];exact h)] at hu;cases hu
   rw[AdY];refine hB.getElem _ _ ?_;rw[Hm YA nvs sp i _ j hg hj];exact hu
theorem PE.errs{T:List As}{m:Ef}{s:B7}{r:Io}(h:PE T m s r):∀e,r=.err e→e=5∨e=6:=by
 induction h with
 | lev_err _ ih=>intro e he;cases he;exact ih _ rfl
 | lev_ok _ _ _ ih=>exact ih
 | loop_end _=>intro e he;cases he
 | loop_err _ _ ih=>intro e he;cases he;exact ih _ rfl
 | loop_go _ _ _ _ ih=>exact ih
 | un_prim _ _ ih=>exact ih
 | un_deep _ _=>intro e he;cases he;exact .inr rfl
 | un_err _ _ _ ih=>intro e he;cases he;exact ih _ rfl
 | un_ok _ _ _ _=>intro e he;cases he
 | pr_sign _ _=>intro e he;cases he;exact .inl rfl
 | pr_deep _ _=>intro e he;cases he;exact .inr rfl
 | pr_err _ _ _ ih=>intro e he;cases he;exact ih _ rfl
 | pr_open _ _ _ _ _=>intro e he;cases he;exact .inl rfl
 | pr_ok _ _ _ _ _=>intro e he;cases he
 | pr_end _=>intro e he;cases he;exact .inl rfl
 | pr_num _=>intro e he;cases he
 | pr_text _=>intro e he;cases he
 | pr_dead _=>intro e he;cases he
 | pr_ref _ _=>intro e he;cases he
 | pr_range _ _ _ _=>intro e he;cases he
 | pr_norange _ _ _=>intro e he;cases he;exact .inl rfl
 | pr_true _ _=>intro e he;cases he
 | pr_false _ _=>intro e he;cases he
 | pr_nocall _ _ _ _=>intro e he;cases he;exact .inl rfl
 | pr_calldeep _ _ _ _ _=>intro e he;cases he;exact .inr rfl
 | pr_call0 _ _ _ _ _ _=>intro e he;cases he
 | pr_call _ _ _ _ _ _ _ ih=>exact ih
 | ar_err _ ih=>intro e he;cases he;exact ih _ rfl
 | ar_go _ _ _ _ ih=>exact ih
 | ar_open _ _ _ _=>intro e he;cases he;exact .inl rfl
 | ar_end _ _ _ _=>intro e he;cases he
theorem Tr.cnt_le:∀{b:Bool} (t:Tr b),t.Fit→t.Num→t.cnt≤W t.toks
 | _,.leaf n,hf,hn=>by
  obtain⟨u,m,e,hk,_⟩:=Hp hf.1 hf.2.1;have hc:=(Ma ((Tr.leaf n).can hf hn u (by show u∈C9 n;rw[e];simp))).1;show 1≤W (C9 n);rw[e,Dp];have:=AbY.2 hc
  omega
 | _,.neg a,hf,hn=>by
  have ha:=cnt_le a hf (λu hu=>hn u AeN);simp only[Tr.cnt,Tr.toks,Dp,XB,Ng,AaT,AbH]
  omega
 | _,.two o a b,hf,hn=>by
  have ha:=cnt_le a hf.2.2.1 (λu hu=>hn u AeI);have hb:=cnt_le b hf.2.2.2 (λu hu=>hn u AeH);have hs:=AbY.2 (KP _ (Jp hf.1 hf.2.1)).1;simp only[Tr.cnt,Tr.toks,Kj,Dp,XB,Ng]
  omega
 | _,.call x .nil,hf,hn=>by
  simp only[Tr.cnt,Tr.toks,Dp,Ng,AaT,AbH]
  omega
 | _,.call x (.snoc rs a),hf,hn=>by
  have hr:=cnt_le rs hf.2.1 (λu hu=>hn u Ae9);have ha:=cnt_le a hf.2.2 (λu hu=>hn u Ae9);simp only[Tr.cnt,Tr.toks,Dp,Kj,Ng,AaT,AbH]
  omega
 | _,.nil,_,_=>Ac8 _
 | _,.snoc rs a,hf,hn=>by
  have hr:=cnt_le rs hf.1 (λu hu=>hn u Ae9);have ha:=cnt_le a hf.2 (λu hu=>hn u Ae9);simp only[Tr.cnt,Tr.toks,Kj];omega
def PIs(s:List UInt8)(l:List Ah)(e:Int):Prop:=AH s=.ok l∧e=0∨AH s=.error e∧l=[]∧(e=4∨e=5∨e=6)
theorem Q6{s:List UInt8}{l:List Ah}(h:AH s=.ok l):DS l:=by
 unfold AH at h
 split at h
 ·cases h
 ·rename_i h1
  split at h
  ·cases h
  ·rename_i T e
   split at h
   ·rename_i hx;have hp:=hx.choose_spec;rw[h] at hp;exact(Ea.tree (ZM Aez e) hp).2
   ·cases h
theorem Df{s:List UInt8}{l:List Ah}(h:AH s=.ok l):s.length≤300∧BV l=true∧DS l∧l.length≤300∧∀n∈l,n.kids.length≤300:=by
 obtain⟨h3,t,hf,hn,rfl,hd,hl⟩:=Px h;have ht:=t.tree hf;have hc:=t.cnt_le hf hn;have a0:(t.flat 0).length≤300:=by
  rw[Tr.flat_len];have:W t.toks=t.text.length:=rfl;omega
 exact⟨h3,ht,Q6 h,a0,λn hm=>Acr (Kc ht n hm) a0⟩
theorem PIs.facts{s:List UInt8}{l:List Ah}{e:Int}(h:PIs s l e):DS l∧l.length≤300∧(∀n∈l,n.kids.length≤300)∧BV l=decide (e=0)∧0≤e∧e≤6:=by
 rcases h with ⟨h,rfl⟩ | ⟨h,rfl,he⟩
 ·obtain⟨_,h1,h2,h3,h4⟩:=Df h;exact⟨h2,h3,h4,by rw[h1];rfl,by omega,by omega⟩
 ·refine⟨λn hn=>(Acn hn).elim,by simp,λn hn=>(Acn hn).elim,?_,by omega,by omega⟩;have:BV []=false:=rfl;rw[this];simp;omega
theorem JN(w:World):Cg w (.slice none 0 0) []:=⟨by simp,.inl ⟨rfl,rfl⟩⟩
theorem Ex.both{s:List UInt8}{v:Value}{w:World}{lo:Nat}(h:Ex s v w lo):∃l e sv,v=.tuple #[sv,.int .i64 e]∧Cg w sv l∧PIs s l e:=by
 have hr:=h.res
 cases hp:AH s with
 | ok l=>
  rw[hp] at hr;obtain⟨sv,rfl,hn⟩:=hr;obtain⟨_,h1,h2,h3,h4⟩:=Df hp
  exact⟨l,0,sv,rfl,hn.row Aez (λn hm=>by have:=h4 n hm;omega),.inl ⟨hp,rfl⟩⟩
 | error e=>
  rw[hp] at hr;refine⟨[],e,_,hr,JN w,.inr ⟨hp,rfl,?_⟩⟩;unfold Ex at h;by_cases h1:300<s.length
  ·have:AH s=.error 4:=by unfold AH;rw[if_pos h1]
   rw[this] at hp;simp only[Except.error.injEq] at hp;omega
  ·rw[if_neg h1] at h
   cases hl:Ii s with
   | none=>
    have:AH s=.error 5:=by unfold AH;rw[if_neg h1,hl]
    rw[this] at hp;simp only[Except.error.injEq] at hp
    omega
   | some T=>
    rw[hl] at h;obtain⟨o,a0,_⟩:=h;have:=FR Aez hl a0;rw[hp] at this;subst this;rcases a0 with h | ⟨h,_⟩
    ·have:=h.errs _ rfl;omega
    ·omega
def Ew(l:List Ah)(o:Nat){b:Bool}(t:Tr b):Prop:=∃suf,l.drop o=t.flat o++suf
theorem L4{l:List Ah}{o n:Nat}{x y:List Ah}(h:l.drop o=x++y)(hn:x.length=n):l.drop (o+n)=y:=by
 rw[←List.drop_drop,h,←hn,Aev]
theorem Ew.node{l:List Ah}{o:Nat}{t:Tr false}(h:Ew l o t):l[o+t.cnt - 1]?=some (DA o t):=by
 obtain⟨suf,h⟩:=h;rw[DC,Abh] at h;have hb:=XN o t;have e:=L4 h rfl;have e2:o+t.cnt - 1=o+(Rn o t).length:=Aez
 have:=congrArg List.head? e;rw[e2,←List.head?_drop,this];rfl
theorem Ew.neg{l:List Ah}{o:Nat}{a:Tr false}(h:Ew l o (.neg a)):Ew l o a:=by
 obtain⟨suf,h⟩:=h;simp only[Tr.flat,Abh] at h;exact⟨_,h⟩
theorem Ew.two{l:List Ah}{o:Nat}{k:Int}{a b:Tr false}(h:Ew l o (.two k a b)):Ew l o a∧Ew l (o+a.cnt) b:=by
 obtain⟨suf,h⟩:=h;simp only[Tr.flat,Abh] at h;exact⟨⟨_,h⟩,_,L4 h (a.flat_len o)⟩
theorem Ew.call{l:List Ah}{o:Nat}{x:List UInt8}{ks:Tr true}(h:Ew l o (.call x ks)):Ew l o ks:=by
 obtain⟨suf,h⟩:=h;simp only[Tr.flat,Abh] at h;exact⟨_,h⟩
theorem Ew.snoc{l:List Ah}{o:Nat}{ks:Tr true}{a:Tr false}(h:Ew l o (.snoc ks a)):Ew l o ks∧Ew l (o+ks.cnt) a:=by
 obtain⟨suf,h⟩:=h;simp only[Tr.flat,Abh] at h;exact⟨⟨_,h⟩,_,L4 h (ks.flat_len o)⟩
theorem Ew.whole(t:Tr false):Ew (t.flat 0) 0 t:=⟨[],by simp⟩
def Tr.row(o:Nat):{b:Bool}→Tr b→List (Nat×Tr false)
 | _,.snoc ks a=>ks.row o++[(o+ks.cnt,a)]
 | _,_=>[]
theorem O8(o:Nat):∀(ks:Tr true),ks.kids o=(ks.row o).map (λx=>((x.1+x.2.cnt - 1:Nat):Int))
 | .nil=>rfl
 | .snoc rs a=>by simp[Tr.kids,Tr.row,O8 o rs]
theorem Tr.cnt_pos(t:Tr false):0<t.cnt:=by cases t<;>simp[Tr.cnt]
theorem P7(rs:Tr true)(a:Tr false):(Tr.snoc rs a).text=rs.text++(a.text++[44]):=by
 simp only[Tr.text,Tr.toks,Adz,Ac7,Aen,Du,Acq]
theorem PA(x:List UInt8):Ci ⟨3,x,0,A6,0⟩=x:=rfl
theorem Pc(x:List UInt8)(rs:Tr true)(a:Tr false):(Tr.call x (.snoc rs a)).text=x++([40]++(rs.text++(a.text++[41]))):=by
 simp only[Tr.text,Tr.toks,Adz,Ac7,Aen,Du,PA,Acq]
theorem QC{l:List Ah}{o:Nat}:∀(ks:Tr true),ks.Fit→ks.Num→Ew l o ks→∀x∈ks.row o,Ew l x.1 x.2∧x.2.Fit∧x.2.Num∧x.2.cnt≤ks.cnt∧x.2.text.length≤ks.text.length
 | .nil,_,_,_,x,hx=>by cases hx
 | .snoc rs a,hf,hn,h,x,hx=>by
  have hnr:rs.Num:=λu hu=>hn u Ae9;have hna:a.Num:=λu hu=>hn u Ae9;have htx:(Tr.snoc rs a).text.length=rs.text.length+a.text.length+1:=by rw[P7];simp only[Aax,AaT,AbH];omega
  simp only[Tr.row,AbB,Aaw] at hx;rcases hx with hx | rfl
  ·obtain⟨h1,h2,h3,h4,h5⟩:=QC rs hf.1 hnr h.snoc.1 x hx;exact⟨h1,h2,h3,by simp only[Tr.cnt];omega,by omega⟩
  ·exact⟨h.snoc.2,hf.2,hna,by simp[Tr.cnt],by simp only;omega⟩
def Is(b:Bool)(s:List UInt8):List UInt8:=if b then[40]++s++[41] else s
theorem Ro(b:Bool)(l:List As):(brk b l).flatMap Ci=Is b (l.flatMap Ci):=by
 unfold brk Is
 split<;>simp[Du]
theorem Oc(a:Tr false):(Tr.neg a).text=[45]++Is (decide (a.rank<5)) a.text:=by
 simp[Tr.text,Tr.toks,Du,Ro]
theorem OJ(k:Int)(a b:Tr false):(Tr.two k a b).text=Is (decide (a.rank<Cf k)) a.text++FA k++Is (decide (b.rank<Cf k+1)) b.text:=by
 simp[Tr.text,Tr.toks,Du,Ro]
def UE(r:List (Nat×Tr false)):List UInt8:=r.flatMap (λx=>x.2.text++[44])
theorem SO(o:Nat):∀(ks:Tr true),ks.text=UE (ks.row o)
 | .nil=>rfl
 | .snoc rs a=>by
  have ih:=SO o rs;simp only[Tr.text] at ih;simp[Tr.text,Tr.toks,Tr.row,UE,ih,Du]
def Hy(r:List (Nat×Tr false)):Nat→List UInt8
 | 0=>[]
 | i+1=>UE (r.take i)++(match r[i]? with
  | some x=>x.2.text
  | none=>[])
theorem Xf{r:List (Nat×Tr false)}{i:Nat}{x:Nat×Tr false}(h:r[i]?=some x):UE (r.take (i+1))=UE (r.take i)++x.2.text++[44]:=by
 rw[Aco,h];simp[UE]
theorem LP{r:List (Nat×Tr false)}{i:Nat}{x:Nat×Tr false}(h:r[i]?=some x):Hy r (i+1)=Hy r i++(if 0<i then[44] else[])++x.2.text:=by
 cases i with
 | zero=>simp[Hy,h,UE]
 | succ j=>
  have hj:j<r.length:=by
   rcases Ac0 j r.length with h' | h'
   ·exact h'
   ·rw[AbK Aez] at h;cases h
  have hy:r[j]?=some r[j]:=Aak hj;simp only[Hy,h,hy,Xf hy];simp
theorem Ly(x:List UInt8)(o:Nat)(ks:Tr true):(Tr.call x ks).text=x++[40]++Hy (ks.row o) (ks.row o).length++[41]:=by
 rcases ks.snoc_form with rfl | ⟨rs,a,rfl⟩
 ·simp[Tr.text,Tr.toks,Du,PA,Tr.row,Hy]
 ·have hr:=SO o rs;have hl:(rs.row o++[(o+rs.cnt,a)]).length=(rs.row o).length+1:=Ae7
  simp only[Tr.row,hl,Hy];rw[Pc,hr];simp
theorem L9{n:Ah}(hp:Ar n=true)(h0:1≤n.kind)(h1:n.kind≤6):(Tr.leaf n).text=if n.kind=1 then Lib.itoa n.num else if n.kind=2 then Ed n.text else if n.kind=3 then(if n.num=1 then Db else CL) else if n.kind=4 then Eh else if n.kind=5 then Ct n.ref else Ct n.ref++[58]++Ct n.to:=by
 have ho:=Eo hp;have:n.kind=1∨n.kind=2∨n.kind=3∨n.kind=4∨n.kind=5∨n.kind=6:=Aez
 rcases this with h | h | h | h | h | h<;>simp only[FE,h,if_true,if_false,Int.reduceEq,Abf,decide_eq_true_eq] at ho<;>simp[Tr.text,Tr.toks,C9,h,Ci,sg]
 ·rw[Ct,if_pos ho]
 ·rw[Ct,Ct,if_pos ho.1,if_pos ho.2.1]
theorem Jl(o:Nat)(t:Tr false)(hf:t.Fit):Cf (DA o t).kind=t.rank:=by
 cases t with
 | leaf n=>
  have h0:=hf.1;have h1:=hf.2.1;show Cf n.kind=6;unfold Cf
  rw[if_neg Aez,if_neg Aez,if_neg Aez,if_neg Aez,if_neg Aez]
 | neg a=>rfl
 | two k a b=>rfl
 | call x ks=>rfl
theorem Ko(b:Bool)(s:List UInt8):s.length≤(Is b s).length∧(Is b s).length≤s.length+2:=by
 unfold Is
 split
 ·simp only[Aax,AaT,AbH];omega
 ·omega
theorem Hz{r:List (Nat×Tr false)}(i:Nat):∀k,i+k≤r.length→(Hy r i).length≤(Hy r (i+k)).length
 | 0,_=>Ab9 _
 | k+1,h=>by
  have ih:=Hz (r:=r) i k Aez;have hlt:i+k<r.length:=Aez
  have hx:r[i+k]?=some r[i+k]:=Aak hlt;have e:=congrArg List.length (LP hx);simp only[Aax] at e;rw[←Nat.add_assoc,e];omega
theorem Rr{x:List UInt8}{ks:Tr true}(h:(Tr.call x ks).Num):ks.Num:=by
 rcases ks.snoc_form with rfl | ⟨rs,a,rfl⟩
 ·intro u hu;cases hu
 ·intro u hu;simp only[Tr.toks,AbB,Acf,Acn,or_false] at hu;rcases hu with hu | hu | rfl
  ·exact h u Ae9
  ·exact h u Ae9
  ·simp[sg]
theorem Tr.num_of:∀{b:Bool} (t:Tr b) (o:Nat),t.Fit→(∀n∈t.flat o,n.num≤9223372036854775807)→t.Num
 | _,.leaf n,o,hf,hs=>by
  have hx:=hs n (by simp[Tr.flat]);intro u hu;have h0:=hf.1;have h1:=hf.2.1;have:n.kind=1∨n.kind=2∨n.kind=3∨n.kind=4∨n.kind=5∨n.kind=6:=Aez
  rcases this with h | h | h | h | h | h<;>simp only[Tr.toks,C9,h,if_true,if_false,Int.reduceEq,Acf,Acn,or_false] at hu
  ·subst hu;exact hx
  ·subst hu;simp
  ·subst hu;simp
  ·subst hu;simp
  ·subst hu;simp
  ·rcases hu with rfl | rfl | rfl<;>simp[sg]
 | _,.neg a,o,hf,hs=>by
  have ha:=num_of a o hf (λn hm=>hs n AeD);intro u hu;simp only[Tr.toks,Acf] at hu;rcases hu with rfl | hu
  ·simp[sg]
  ·rcases FB hu with hu | rfl | rfl
   ·exact ha u hu
   ·simp[sg]
   ·simp[sg]
 | _,.two k a b,o,hf,hs=>by
  have ha:=num_of a o hf.2.2.1 (λn hm=>hs n AeD);have hb:=num_of b (o+a.cnt) hf.2.2.2 (λn hm=>hs n AeD);intro u hu;simp only[Tr.toks,AbB,Acf] at hu;rcases hu with hu | rfl | hu
  ·rcases FB hu with hu | rfl | rfl
   ·exact ha u hu
   ·simp[sg]
   ·simp[sg]
  ·simp[sg]
  ·rcases FB hu with hu | rfl | rfl
   ·exact hb u hu
   ·simp[sg]
   ·simp[sg]
 | _,.call x .nil,o,hf,hs=>by
  intro u hu;simp only[Tr.toks,Acf,Acn,or_false] at hu
  rcases hu with rfl | rfl | rfl<;>simp[sg]
 | _,.call x (.snoc rs a),o,hf,hs=>by
  have hr:=num_of rs o hf.2.1 (λn hm=>hs n AeD);have ha:=num_of a (o+rs.cnt) hf.2.2 (λn hm=>hs n AeD);intro u hu;simp only[Tr.toks,Acf,AbB,Acn,or_false] at hu;rcases hu with rfl | rfl | hu | hu | rfl
  ·simp
  ·simp[sg]
  ·exact hr u hu
  ·exact ha u hu
  ·simp[sg]
 | _,.nil,o,_,_=>λu hu=>by cases hu
 | _,.snoc rs a,o,hf,hs=>by
  have hr:=num_of rs o hf.1 (λn hm=>hs n AeD);have ha:=num_of a (o+rs.cnt) hf.2 (λn hm=>hs n AeD);intro u hu;simp only[Tr.toks,AbB,Acf,Acn,or_false] at hu;rcases hu with hu | hu | rfl
  ·exact hr u hu
  ·exact ha u hu
  ·simp[sg]
theorem Tr.len_le:∀{b:Bool} (t:Tr b) (o:Nat),t.Fit→t.Num→(∀n∈t.flat o,n.text.length≤1000)→t.text.length+cond b 0 1≤4000*t.cnt
 | _,.leaf n,o,hf,hn,hs=>by
  have hx:=hs n (by simp[Tr.flat]);have hc:=(Tr.leaf n).can hf hn;obtain⟨h0,h1,hk,hp⟩:=hf;have ho:=Eo hp;have hq:=LN n.text;rw[L9 hp h0 h1];have htb:∀r:C3,AY r=true→(Ct r).length≤30:=λr hm=>by
   have h2:=LX hm;have h3:=(DE hm).1;rw[Ct,if_pos hm];rcases h3 with h3 | h3
   ·rw[h3] at h2;simp at h2;omega
   ·have:=(EW h3).2.1;omega
  show _+1≤_;simp only[Tr.cnt];have:n.kind=1∨n.kind=2∨n.kind=3∨n.kind=4∨n.kind=5∨n.kind=6:=Aez
  rcases this with h | h | h | h | h | h<;>simp only[FE,h,if_true,if_false,Int.reduceEq,Abf,decide_eq_true_eq] at ho ⊢
  ·have:=Lib.itoa_length_le n.num Aez (hn ⟨1,[],n.num,A6,0⟩ (by simp[Tr.toks,C9,h]));omega
  ·omega
  ·split<;>simp[Db,CL]
  ·simp[Eh]
  ·have:=htb _ ho;omega
  ·have:=htb _ ho.1;have:=htb _ ho.2.1
   simp only[Aax,AaT,AbH];omega
 | _,.neg a,o,hf,hn,hs=>by
  have ha:a.text.length+1≤_:=len_le a o hf (λu hu=>hn u AeN) (λn hm=>hs n AeD);show _+1≤_;rw[Oc];simp only[Tr.cnt,Is]
  split<;>simp only[Aax,AaT,AbH]<;>omega
 | _,.two k a b,o,hf,hn,hs=>by
  have ha:a.text.length+1≤_:=len_le a o hf.2.2.1 (λu hu=>hn u AeI) (λn hm=>hs n AeD);have hb:b.text.length+1≤_:=len_le b (o+a.cnt) hf.2.2.2 (λu hu=>hn u AeH) (λn hm=>hs n AeD);have a0:∀s∈Bn,s.length≤2:=Ae2
  have h2:=a0 _ (Jp hf.1 hf.2.1);show _+1≤_;rw[OJ];simp only[Tr.cnt,Is]
  split<;>split<;>simp only[Aax,AaT,AbH]<;>omega
 | _,.call x .nil,o,hf,hn,hs=>by
  have hx:x.length≤1000:=hs {kind:=7,text:=x,kids:=Tr.nil.kids o} (by simp[Tr.flat]);show _+1≤_;rw[Ly x o];simp only[Tr.cnt,Tr.row,Hy,Aax,AaT,AbH]
  omega
 | _,.call x (.snoc rs a),o,hf,hn,hs=>by
  have hx:x.length≤1000:=hs {kind:=7,text:=x,kids:=(Tr.snoc rs a).kids o} (by simp[Tr.flat]);have hr:rs.text.length+0≤_:=len_le rs o hf.2.1 (λu hu=>hn u Ae9) (λn hm=>hs n AeD);have ha:a.text.length+1≤_:=len_le a (o+rs.cnt) hf.2.2 (λu hu=>hn u Ae9) (λn hm=>hs n AeD);have e:(Tr.call x (.snoc rs a)).text.length=x.length+1+(rs.text.length+(a.text.length+1)):=by
   rw[Pc];simp only[Aax,AaT,AbH];omega
  show _+1≤_;rw[e];simp only[Tr.cnt]
  omega
 | _,.nil,o,_,_,_=>by show _+0≤_;simp[Tr.text,Tr.toks]
 | _,.snoc rs a,o,hf,hn,hs=>by
  have hr:rs.text.length+0≤_:=len_le rs o hf.1 (λu hu=>hn u Ae9) (λn hm=>hs n AeD);have ha:a.text.length+1≤_:=len_le a (o+rs.cnt) hf.2 (λu hu=>hn u Ae9) (λn hm=>hs n AeD);have hp:=a.cnt_pos;have e:(Tr.snoc rs a).text.length=rs.text.length+a.text.length+1:=by rw[P7];simp only[Aax,AaT,AbH];omega
  show _+0≤_;rw[e];simp only[Tr.cnt];omega
def J0(l:List Ah):Prop:=∀t:Tr false,t.Fit→t.flat 0=l→t.Num
theorem Y8{l:List Ah}(h:∀n∈l,n.num≤9223372036854775807):J0 l:=λt hf e=>t.num_of 0 hf (by rw[e];exact h)
theorem PIs.num{s:List UInt8}{l:List Ah}{e:Int}(h:PIs s l e):J0 l:=by
 intro t hf et;rcases h with ⟨h,rfl⟩ | ⟨_,rfl,_⟩
 ·obtain⟨_,_,_,u,hu,hn,e1,_⟩:=GA h;have:=Tr.inj t u hf hu [] [] (by simpa using et.trans e1.symm) (.inl rfl);rw[this.1];exact hn
 ·have:=t.flat_len 0;rw[et] at this;have:=t.cnt_pos;simp at *;omega
end Go.Proofs.YtefaigjfkddelaaGreatDoor
