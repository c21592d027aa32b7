/-
  Joined by program out of the texts TreeP ShowP ShowQ ShowR ShowS ShowT NodesM ShowU.
-/
import Derived.Test.YtcjjcnecopnpcaaGreatDoorMyB
import Derived.Test.YtcjjcnecopnpcaaGreatDoorMyE
namespace Go.Proofs.YtcjjcnecopnpcaaGreatDoor
open Tryz
open Go Go.E
def BR(T:List As):Nat→DY→Bx→Option Ii
 | 0,_,_=>none
 | n+1,.lev k,s=>match BR T n (below k) s with
  | some (.ok s1 a)=>BR T n (.loop k a) s1
  | some (.err e)=>some (.err e)
  | none=>none
 | n+1,.loop k a,s=>match GF T s k with
  | none=>some (.ok s a)
  | some i=>match BR T n (below k) (Al s) with
   | some (.ok s1 b)=>BR T n (.loop k s1.out.length) (Bt s1 {kind:=(Aw k).getD i 0,kids:=[(a:Int),(b:Int)]})
   | some (.err e)=>some (.err e)
   | none=>none
 | n+1,.unary,s=>if BH T s [45]=true then(if 12≤s.deep then some (.err 6) else match BR T n .unary (Ax (Al s)) with
   | some (.ok s1 a)=>some (.ok (Bt (B3 s1) {kind:=8,kids:=[(a:Int)]}) s1.out.length)
   | some (.err e)=>some (.err e)
   | none=>none) else BR T n .prim s
 | n+1,.prim,s=>
  if (Aa T s).kind=5 then
   if BH T s [40]=true then(if 12≤s.deep then some (.err 6) else match BR T n (.lev 0) (Ax (Al s)) with
    | some (.ok s1 a)=>if BH T s1 [41]=true then some (.ok (B3 (Al s1)) a) else some (.err 5)
    | some (.err e)=>some (.err e)
    | none=>none)
   else some (.err 5)
  else if (Aa T s).kind=0 then some (.err 5)
  else if (Aa T s).kind=1 then some (.ok (Bt (Al s) {kind:=1,num:=(Aa T s).num}) s.out.length)
  else if (Aa T s).kind=2 then some (.ok (Bt (Al s) {kind:=2,text:=(Aa T s).text}) s.out.length)
  else if (Aa T s).kind=6 then some (.ok (Bt (Al s) {kind:=4}) s.out.length)
  else if (Aa T s).kind=4 then
   if BH T (Al s) [58]=true then
    if (Aa T (Al (Al s))).kind=4∧Bo (Aa T s).ref (Aa T (Al (Al s))).ref=true then some (.ok (Bt (Al (Al (Al s))) {kind:=6,ref:=(Aa T s).ref,to:=(Aa T (Al (Al s))).ref}) s.out.length)
    else some (.err 5)
   else some (.ok (Bt (Al s) {kind:=5,ref:=(Aa T s).ref}) s.out.length)
  else if (Aa T s).kind=3 then
   if (Aa T s).text=Dc then some (.ok (Bt (Al s) {kind:=3,num:=1}) s.out.length)
   else if (Aa T s).text=CL then some (.ok (Bt (Al s) {kind:=3}) s.out.length)
   else if BH T (Al s) [40]=true then
    if 12≤s.deep then some (.err 6)
    else if BH T (Ax (Al (Al s))) [41]=true then some (.ok (Bt (B3 (Al (Ax (Al (Al s))))) {kind:=7,text:=(Aa T s).text}) s.out.length)
    else BR T n (.args (Aa T s).text []) (Ax (Al (Al s)))
   else some (.err 5)
  else none
 | n+1,.args x ks,s=>match BR T n (.lev 0) s with
  | some (.ok s1 a)=>if BH T s1 [44]=true then BR T n (.args x (ks++[(a:Int)])) (Al s1)
   else if BH T s1 [41]=true then some (.ok (Bt (B3 (Al s1)) {kind:=7,text:=x,kids:=ks++[(a:Int)]}) s1.out.length)
   else some (.err 5)
  | some (.err e)=>some (.err e)
  | none=>none
theorem Qh{T:List As}{s:Bx}{x:List UInt8}(h:BH T s x=true):(Aa T s).kind=5:=by
 simp[BH] at h;exact h.1
theorem Aap{T:List As}{s:Bx}{x:List UInt8}(h2:(Aa T s).text≠x):BH T s x=false:=by
 simp[BH,h2]
theorem PE.eval{T:List As}{m:DY}{s:Bx}{r:Ii}(h:PE T m s r):∃N,∀n,N≤n→BR T n m s=some r:=by
 induction h with
 | lev_err _ ih=>
  obtain⟨N,ih⟩:=ih;refine⟨N+1,λn hn=>?_⟩;obtain⟨n,rfl⟩:∃k,n=k+1:=⟨n - 1,by omega⟩
  simp only[BR,ih n Aeb]
 | lev_ok _ _ ih1 ih2=>
  obtain⟨N,ih1⟩:=ih1;obtain⟨M,ih2⟩:=ih2;refine⟨N+M+1,λn hn=>?_⟩;obtain⟨n,rfl⟩:∃k,n=k+1:=⟨n - 1,by omega⟩
  simp only[BR,ih1 n Aeb,ih2 n Aeb]
 | loop_end h=>
  refine⟨1,λn hn=>?_⟩;obtain⟨n,rfl⟩:∃k,n=k+1:=⟨n - 1,by omega⟩
  simp only[BR,h]
 | loop_err h _ ih=>
  obtain⟨N,ih⟩:=ih;refine⟨N+1,λn hn=>?_⟩;obtain⟨n,rfl⟩:∃k,n=k+1:=⟨n - 1,by omega⟩
  simp only[BR,h,ih n Aeb]
 | loop_go h _ _ ih1 ih2=>
  obtain⟨N,ih1⟩:=ih1;obtain⟨M,ih2⟩:=ih2;refine⟨N+M+1,λn hn=>?_⟩;obtain⟨n,rfl⟩:∃k,n=k+1:=⟨n - 1,by omega⟩
  simp only[BR,h,ih1 n Aeb,ih2 n Aeb]
 | un_prim h _ ih=>
  obtain⟨N,ih⟩:=ih;refine⟨N+1,λn hn=>?_⟩;obtain⟨n,rfl⟩:∃k,n=k+1:=⟨n - 1,by omega⟩
  simp only[BR,h,ih n Aeb,AbK,if_false]
 | un_deep h hd=>
  refine⟨1,λn hn=>?_⟩;obtain⟨n,rfl⟩:∃k,n=k+1:=⟨n - 1,by omega⟩
  simp only[BR,h,hd,if_true]
 | un_err h hd _ ih=>
  obtain⟨N,ih⟩:=ih;refine⟨N+1,λn hn=>?_⟩;obtain⟨n,rfl⟩:∃k,n=k+1:=⟨n - 1,by omega⟩
  simp only[BR,h,ih n Aeb,if_true,Ad3.2 hd,if_false]
 | un_ok h hd _ ih=>
  obtain⟨N,ih⟩:=ih;refine⟨N+1,λn hn=>?_⟩;obtain⟨n,rfl⟩:∃k,n=k+1:=⟨n - 1,by omega⟩
  simp only[BR,h,ih n Aeb,if_true,Ad3.2 hd,if_false]
 | pr_sign h h2=>
  refine⟨1,λn hn=>?_⟩;obtain⟨n,rfl⟩:∃k,n=k+1:=⟨n - 1,by omega⟩
  simp only[BR,h,if_true,Aap h2,AbK,if_false]
 | pr_deep h hd=>
  refine⟨1,λn hn=>?_⟩;obtain⟨n,rfl⟩:∃k,n=k+1:=⟨n - 1,by omega⟩
  simp only[BR,Qh h,h,hd,if_true]
 | pr_err h hd _ ih=>
  obtain⟨N,ih⟩:=ih;refine⟨N+1,λn hn=>?_⟩;obtain⟨n,rfl⟩:∃k,n=k+1:=⟨n - 1,by omega⟩
  simp only[BR,Qh h,h,ih n Aeb,if_true,Ad3.2 hd,if_false]
 | pr_open h hd _ h2 ih=>
  obtain⟨N,ih⟩:=ih;refine⟨N+1,λn hn=>?_⟩;obtain⟨n,rfl⟩:∃k,n=k+1:=⟨n - 1,by omega⟩
  simp only[BR,Qh h,h,ih n Aeb,if_true,Ad3.2 hd,if_false,h2,AbK]
 | pr_ok h hd _ h2 ih=>
  obtain⟨N,ih⟩:=ih;refine⟨N+1,λn hn=>?_⟩;obtain⟨n,rfl⟩:∃k,n=k+1:=⟨n - 1,by omega⟩
  simp only[BR,Qh h,h,ih n Aeb,if_true,Ad3.2 hd,if_false,h2]
 | pr_end h | pr_num h | pr_text h | pr_dead h=>
  refine⟨1,λn hn=>?_⟩;obtain⟨n,rfl⟩:∃k,n=k+1:=⟨n - 1,by omega⟩
  simp[BR,h]
 | pr_ref h h2 | pr_true h h2 | pr_false h h2=>
  refine⟨1,λn hn=>?_⟩;obtain⟨n,rfl⟩:∃k,n=k+1:=⟨n - 1,by omega⟩
  simp[BR,h,h2,Dc,CL]
 | pr_norange h h2 h3=>
  refine⟨1,λn hn=>?_⟩;obtain⟨n,rfl⟩:∃k,n=k+1:=⟨n - 1,by omega⟩;have h4:¬((Aa T (Al (Al _))).kind=4∧Bo (Aa T _).ref (Aa T (Al (Al _))).ref=true):=λhh=>by
   rcases h3 with h3 | h3
   ·exact h3 hh.1
   ·rw[hh.2] at h3;cases h3
  simp only[BR,h,h2,if_neg h4]
  rfl
 | pr_range h h2 h3 h4=>
  refine⟨1,λn hn=>?_⟩;obtain⟨n,rfl⟩:∃k,n=k+1:=⟨n - 1,by omega⟩
  simp[BR,h,h2,h3,h4]
 | pr_nocall h h2 h3 h4=>
  refine⟨1,λn hn=>?_⟩;obtain⟨n,rfl⟩:∃k,n=k+1:=⟨n - 1,by omega⟩
  simp[BR,h,h2,h3,h4]
 | pr_calldeep h h2 h3 h4 h5=>
  refine⟨1,λn hn=>?_⟩;obtain⟨n,rfl⟩:∃k,n=k+1:=⟨n - 1,by omega⟩
  simp[BR,h,h2,h3,h4,h5]
 | pr_call0 h h2 h3 h4 h5 h6=>
  refine⟨1,λn hn=>?_⟩;obtain⟨n,rfl⟩:∃k,n=k+1:=⟨n - 1,by omega⟩
  simp[BR,h,h2,h3,h4,Ad3.2 h5,h6]
 | pr_call h h2 h3 h4 h5 h6 _ ih=>
  obtain⟨N,ih⟩:=ih;refine⟨N+1,λn hn=>?_⟩;obtain⟨n,rfl⟩:∃k,n=k+1:=⟨n - 1,by omega⟩;have:=ih n Aeb
  simp[BR,h,h2,h3,h4,Ad3.2 h5,h6,this]
 | ar_err _ ih=>
  obtain⟨N,ih⟩:=ih;refine⟨N+1,λn hn=>?_⟩;obtain⟨n,rfl⟩:∃k,n=k+1:=⟨n - 1,by omega⟩
  simp only[BR,ih n Aeb]
 | ar_go _ h _ ih1 ih2=>
  obtain⟨N,ih1⟩:=ih1;obtain⟨M,ih2⟩:=ih2;refine⟨N+M+1,λn hn=>?_⟩;obtain⟨n,rfl⟩:∃k,n=k+1:=⟨n - 1,by omega⟩
  simp only[BR,ih1 n Aeb,h,if_true,ih2 n Aeb]
 | ar_open _ h h2 ih=>
  obtain⟨N,ih⟩:=ih;refine⟨N+1,λn hn=>?_⟩;obtain⟨n,rfl⟩:∃k,n=k+1:=⟨n - 1,by omega⟩
  simp only[BR,ih n Aeb,h,h2,AbK,if_false]
 | ar_end _ h h2 ih=>
  obtain⟨N,ih⟩:=ih;refine⟨N+1,λn hn=>?_⟩;obtain⟨n,rfl⟩:∃k,n=k+1:=⟨n - 1,by omega⟩;simp only[BR,ih n Aeb,h,h2,AbK,if_false,if_true]
theorem PE.det{T:List As}{m:DY}{s:Bx}{r r':Ii}(h:PE T m s r)(h':PE T m s r'):r=r':=by
 obtain⟨N,h⟩:=h.eval;obtain⟨M,h'⟩:=h'.eval;have:=(h (N+M) Aeb).symm.trans (h' (N+M) Aeb)
 simpa using this
theorem DS.det{T:List As}{o o':Except Int (List Aj)}(h:DS T o)(h':DS T o'):o=o':=by
 unfold DS at h h'
 split at h<;>split at h'
 ·rcases h with h | ⟨rfl,s,a,h,hk⟩<;>rcases h' with h' | ⟨rfl,s',a',h',a0⟩
  ·have:=h.det h';simp only[Ii.err.injEq] at this;rw[this]
  ·cases h.det h'
  ·cases h.det h'
  ·rfl
 ·obtain⟨s',a',h',a0,rfl⟩:=h';rcases h with h | ⟨rfl,s,a,h,hk⟩
  ·cases h.det h'
  ·have:=h.det h';simp only[Ii.ok.injEq] at this;obtain⟨rfl,rfl⟩:=this;exact absurd a0 hk
 ·obtain⟨s,a,h,hk,rfl⟩:=h;rcases h' with h' | ⟨rfl,s',a',h',a0⟩
  ·cases h.det h'
  ·have:=h.det h';simp only[Ii.ok.injEq] at this;obtain⟨rfl,rfl⟩:=this;exact absurd hk a0
 ·obtain⟨s,a,h,hk,rfl⟩:=h;obtain⟨s',a',h',a0,rfl⟩:=h';have:=h.det h';simp only[Ii.ok.injEq] at this;rw[this.1]
structure Kg(t:As):Prop where
 num:t.kind=1→0≤t.num
 text:t.kind=2→Mn t.text=true
 word:t.kind=3→KL t.text=true∧AV t.text=false
 ref:t.kind=4→AZ t.ref=true
 len:t.text.length≤1000
theorem Sk{c:UInt8}{l:List UInt8}(hc:¬c<32)(h:Mn l=true):Mn (c::l)=true:=by
 simp only[Mn,decide_eq_true_eq] at h ⊢;intro j hj
 cases j with
 | zero=>
  show 32≤(c.toNat:Int);have:¬c.toNat<32:=λhh=>hc (AcZ.2 (by simpa using hh))
  omega
 | succ j=>exact h j AeN
theorem ME:∀(l:List UInt8) {x:List UInt8×Nat},AR l=some x→Mn x.1=true∧x.1.length≤l.length
 | [],x,h=>by simp[AR] at h
 | [c],x,h=>by
  simp only[AR] at h
  split at h
  ·simp only[AaZ] at h;subst h;exact⟨rfl,by simp⟩
  ·cases h
 | c::d::r,x,h=>by
  simp only[AR] at h
  split at h
  ·split at h
   ·cases e:AR r with
    | none=>rw[e] at h;cases h
    | some y=>
     rw[e] at h;simp only[AbG,AaZ] at h;have:=ME r e;subst h;exact⟨Sk Aef this.1,by simp;omega⟩
   ·simp only[AaZ] at h;subst h;exact⟨rfl,by simp⟩
  ·split at h
   ·cases h
   ·rename_i hc
    cases e:AR (d::r) with
    | none=>rw[e] at h;cases h
    | some y=>
     rw[e] at h;simp only[AbG,AaZ] at h;have:=ME (d::r) e;subst h;exact⟨Sk hc this.1,by have:=this.2;simp at this ⊢;omega⟩
theorem Um{s:List UInt8}(h:AV s=true):AZ (D0 s)=true:=by
 simp only[AV,Abr,decide_eq_true_eq,AcO,decide_eq_false_iff_not] at h
 cases hm:AZ (D0 s) with
 | true=>rfl
 | false=>
  have:=h.1.2;rw[Cl,hm] at this;exact absurd this.symm h.2
theorem Z0{l:List UInt8}{t:As}{k:Nat}(hl:l.length≤1000)(h:Ct l=some (t,k)):Kg t:=by
 unfold Ct at h
 split at h
 ·rename_i h0;have a0:Ak Ar l≠[]:=by
   have:=(IH (p:=Ar) (l:=l) (by
    cases l with
    | nil=>cases h0
    | cons a b=>simp) h0).1
   exact AbB.1 this
  rw[K1 a0] at h
  split at h
  ·simp only[AaZ,AbJ] at h;rw[←h.1];exact⟨λ_=>(GY _ (λj hj=>by
   have hh:=Hn Ar l _ (AbY hj)
   simpa[Ab,AaA,Aav hj] using hh)).1,by simp,by simp,by simp,by simp⟩
  ·cases h
 ·split at h
  ·unfold E3 at h
   cases e:AR (l.drop 1) with
   | none=>rw[e] at h;cases h
   | some x=>
    rw[e] at h;simp only[AbG,AaZ,AbJ] at h;have:=ME _ e;rw[←h.1];exact⟨by simp,λ_=>this.1,by simp,by simp,by have:=this.2;simp at this ⊢;omega⟩
  ·split at h
   ·unfold Eg at h;simp only at h;have a1:=E0 DM l
    split at h
    ·rename_i hr;simp only[AaZ,AbJ] at h;rw[←h.1];exact⟨by simp,by simp,by simp,λ_=>Um hr,by simp⟩
    ·rename_i hr
     split at h
     ·rename_i hf;simp only[AaZ,AbJ] at h;rw[←h.1];exact⟨by simp,by simp,λ_=>⟨hf,by simpa using hr⟩,by simp,by show(Ak DM l).length≤1000;omega⟩
     ·cases h
   ·unfold Fk at h
    split at h
    ·simp only[AaZ,AbJ] at h;rw[←h.1];exact⟨by simp,by simp,by simp,by simp,by simp⟩
    ·cases e:Bf.find? λs=>Lib.hasPrefix l s with
     | none=>rw[e] at h;cases h
     | some x=>
      rw[e] at h;simp only[AbG,AaZ,AbJ] at h;have:=L8 (AdU e);rw[←h.1];exact⟨by simp,by simp,by simp,by simp,by show x.length≤1000;omega⟩
theorem P9(a:Int):Kg ⟨0,[],0,A4,a⟩:=⟨by simp,by simp,by simp,by simp,by simp⟩
theorem US:∀(n:Nat) (l:List UInt8) (a:Nat) {out:List As},l.length≤n→l.length≤1000→FY l a=some out→∀t∈out,Kg t
 | n,l,a,out,hn,hl,h=>by
  cases e:l.drop (Ak FD l).length with
  | nil=>
   rw[Fa e] at h;simp only[AaZ] at h;subst h;intro t ht;rw[Aah.1 ht]
   exact P9 _
  | cons c r=>
   have hl':=congrArg List.length e;simp at hl'
   cases ho:Ct (c::r) with
   | none=>rw[FZ e Aej ho] at h;cases h
   | some x=>
    obtain⟨t,k⟩:=x;have hk:=Fe Aej ho;have hok:=Z0 Aee ho;rw[Gz e Aej ho hk] at h
    cases hr:FY ((c::r).drop k) (a+(Ak FD l).length+k) with
    | none=>rw[hr] at h;cases h
    | some y=>
     rw[hr] at h;simp only[AbG,AaZ] at h;subst h
     match n with
     | 0=>omega
     | n+1=>
      have hd:((c::r).drop k).length=r.length+1 - k:=Aej
      have:=US n ((c::r).drop k) _ Afz Afz hr;intro t' ht;rcases Ab0.1 ht with rfl | ht
      ·exact⟨hok.num,hok.text,hok.word,hok.ref,hok.len⟩
      ·exact this t' ht
theorem Zu{s:List UInt8}{T:List As}(hs:s.length≤1000)(h:Ic s=some T):∀t∈T,Kg t:=US _ s 0 (Ab2 _) hs h
theorem Gn{T:List As}(h:∀t∈T,Kg t)(s:Bx):Kg (Aa T s):=by
 unfold Aa;rcases AbW s.at_ T.length with hl | hl
 ·rw[AaA,Aav hl];exact h _ (AbY hl)
 ·rw[AaA,AbE hl];exact P9 0
theorem DX:∀(l m:List Aj) (i:Nat) (st:List Int),Bk i st (l++m)=(Bk i st l).bind λst'=>Bk (i+l.length) st' m
 | [],m,i,st=>by simp[Bk]
 | n::t,m,i,st=>by
  rw[Ack,Bk,Bk]
  cases Dp i st n with
  | none=>rfl
  | some st'=>
   simp only;rw[DX t m (i+1) st',Abe,show i+1+t.length=i+(t.length+1) by omega]
theorem II{l:List Aj}{i:Nat}{st st' ks:List Int}{n:Aj}(h:Bk i st l=some (st'++ks))(hk:n.kids=ks)(hc:Fv n=n.kids.length)(hp:Au n=true):Bk i st (l++[n])=some (st'++[((i+l.length:Nat):Int)]):=by
 subst hk;rw[DX,h];simp only[Ac4,Bk,Dp];have e:(st'++n.kids).length - n.kids.length=st'.length:=Aej
 rw[e,if_pos ⟨hc,by simp,by simp,hp⟩];simp
theorem CN{n:Aj}(h:F9 n=true)(hb:(A7 n).num=0∧(A7 n).text=[]∧(A7 n).ref=A4∧(A7 n).to=A4):Au n=true:=by
 simp[Au,h,hb]
def Gu(s s1:Bx)(ks:List Int)(a:Nat):Prop:=
 ∃new,s1.out=s.out++new∧DN new∧∀st,Bk s.out.length (st++ks) new=some (st++[(a:Int)])
theorem Gu.same{s s1 s2 s3:Bx}{ks:List Int}{a:Nat}(h:Gu s s1 ks a)(e1:s2.out=s.out)(e2:s3.out=s1.out):Gu s2 s3 ks a:=by
 obtain⟨new,h1,h2,h3⟩:=h;exact⟨new,by rw[e2,e1,h1],h2,by rw[e1];exact h3⟩
theorem P2{l m:List Aj}(h:DN l)(k:DN m):DN (l++m):=λn hn=>by
 rcases Ab1.1 hn with hn | hn
 ·exact h n hn
 ·exact k n hn
theorem Gu.nil(s s1:Bx)(a:Nat)(e:s1.out=s.out):Gu s s1 [(a:Int)] a:=⟨[],by simp[e],(λn hn=>by cases hn),λst=>by simp[Bk]⟩
theorem Gu.trans{s s1 s2:Bx}{ks:List Int}{a b:Nat}(h:Gu s s1 ks a)(k:Gu s1 s2 [(a:Int)] b):Gu s s2 ks b:=by
 obtain⟨n1,e1,p1,t1⟩:=h;obtain⟨n2,e2,p2,t2⟩:=k;refine⟨n1++n2,by rw[e2,e1,Abn],P2 p1 p2,λst=>?_⟩;rw[DX,t1];simp only[Ac4];have:=t2 st;rw[e1,Aa9] at this;exact this
theorem Gu.more{s s1 s2:Bx}{ks ks1:List Int}{a b:Nat}(h:Gu s s1 ks a)(k:Gu s1 s2 (ks1++[(a:Int)]) b):Gu s s2 (ks1++ks) b:=by
 obtain⟨n1,e1,p1,t1⟩:=h;obtain⟨n2,e2,p2,t2⟩:=k;refine⟨n1++n2,by rw[e2,e1,Abn],P2 p1 p2,λst=>?_⟩;rw[DX,←List.append_assoc,t1];simp only[Ac4];have:=t2 st;rw[e1,Aa9] at this;rw[Abn];exact this
theorem Gu.node{s s2 s3:Bx}{n:Aj}{ks:List Int}(hk:n.kids=ks)(hc:Fv n=n.kids.length)(hp:Au n=true)(hs:n.text.length≤1000∧n.ref.sheet.length≤1000∧n.to.sheet.length≤1000)(e:s3.out=s.out++[n])(e2:s2.out=s.out):Gu s2 s3 ks s.out.length:=by
 refine⟨[n],by rw[e,e2],λx hx=>by rw[Aah.1 hx];exact hs,λst=>?_⟩;have:=II (l:=[]) (i:=s2.out.length) (st:=st++ks) (st':=st) (ks:=ks) rfl hk hc hp
 simpa[e2] using this
theorem IF{x:C3}(h:AZ x=true):x.sheet.length≤1000:=by
 simp only[AZ,Abr,Aci,decide_eq_true_eq] at h;rcases h.1.1.1.1 with h | h
 ·rw[h];simp
 ·simp only[D5,Abr,decide_eq_true_eq] at h;omega
theorem Ba:A4.sheet.length≤1000:=by decide
def AaG(m:DY)(s:Bx):Ii→Prop
 | .err _=>True
 | .ok s1 b=>match m with
  | .loop _ a=>Gu s s1 [(a:Int)] b
  | .args x ks=>C2 x=true→Gu s s1 ks b
  | _=>Gu s s1 [] b
theorem NX{n:Nat}{s s1:Bx}{a:Nat}(h:AaG (below n) s (.ok s1 a)):Gu s s1 [] a:=by
 unfold below at h
 split at h<;>exact h
theorem VY{T:List As}{s:Bx}{n i:Nat}(h:GF T s n=some i):9≤(Aw n).getD i 0∧(Aw n).getD i 0≤19:=by
 unfold GF at h
 split at h
 ·have hi:=(AbI.1 h).1;have e:(AA n).length=(Aw n).length:=by
   unfold AA Aw
   match n with
   | 0=>rfl
   | 1=>rfl
   | 2=>rfl
   | _+3=>rfl
  have a0:∀z∈Aw n,9≤z∧z≤19:=by
   unfold Aw
   match n with
   | 0=>decide
   | 1=>decide
   | 2=>decide
   | _+3=>
    show ∀z∈[18,19],(9:Int)≤z∧z≤19
    decide
  rw[AaA,Aav Aeb];exact a0 _ (AbY _)
 ·cases h
theorem Oy{k:Int}(h0:9≤k)(h1:k≤19)(a b:Int):Fv {kind:=k,kids:=[a,b]}=2∧Au {kind:=k,kids:=[a,b]}=true:=by
 have hc:BC k=2:=by
  unfold BC;rw[if_neg Aeb,if_neg Aeb,if_neg Aeb,if_pos Aeb]
 constructor
 ·simp[Fv,hc]
 ·have hb:A7 {kind:=k,kids:=[a,b]}={kind:=k,kids:=[a,b]}:=by
   unfold A7;rw[if_neg (show ¬k=1 by omega),if_neg (show ¬k=3 by omega),if_neg (show ¬k=2 by omega),if_neg (show ¬k=7 by omega),if_neg (show ¬k=5 by omega),if_neg (show ¬k=6 by omega)]
  have ho:F9 {kind:=k,kids:=[a,b]}=true:=by
   unfold F9;rw[if_neg (show ¬k=1 by omega),if_neg (show ¬k=3 by omega),if_neg (show ¬k=2 by omega),if_neg (show ¬k=7 by omega),if_neg (show ¬k=5 by omega),if_neg (show ¬k=6 by omega)]
  exact CN ho (by rw[hb];exact⟨rfl,rfl,rfl,rfl⟩)
theorem IU{x:List UInt8}(h:C2 x=true)(ks:List Int):Fv {kind:=7,text:=x,kids:=ks}=ks.length∧Au {kind:=7,text:=x,kids:=ks}=true:=by
 refine⟨if_pos rfl,CN h ⟨rfl,rfl,rfl,rfl⟩⟩
theorem N7{x:List UInt8}(h:C2 x=true):x.length≤1000:=by
 simp only[C2,KL,Abr,decide_eq_true_eq] at h;omega
theorem PG{T:List As}(hT:∀t∈T,Kg t){s:Bx}(h:(Aa T s).kind=3)(h1:(Aa T s).text≠Dc)(h2:(Aa T s).text≠CL):C2 (Aa T s).text=true:=by
 have:=(Gn hT s).word h;simp[C2,this,h1,h2]
theorem PE.puts{T:List As}(hT:∀t∈T,Kg t){m:DY}{s:Bx}{r:Ii}(h:PE T m s r):AaG m s r:=by
 induction h with
 | lev_err _ _=>trivial
 | @lev_ok n s s1 a r _ _ ih1 ih2=>
  cases r with
  | err e=>trivial
  | ok s2 b=>exact(NX ih1).trans ih2
 | loop_end _=>exact Gu.nil _ _ _ rfl
 | loop_err _ _ _=>trivial
 | @loop_go n s a i s1 b r hi _ _ ih1 ih2=>
  cases r with
  | err e=>trivial
  | ok s2 c=>
   obtain⟨k0,k1⟩:=VY hi;have hn:=Oy k0 k1 (a:Int) (b:Int);have hp:Gu s1 (Bt s1 {kind:=(Aw n).getD i 0,kids:=[(a:Int),(b:Int)]}) ([(a:Int)]++[(b:Int)]) s1.out.length:=Gu.node (s:=s1) rfl hn.1 hn.2 ⟨by simp,Ba,Ba⟩ rfl rfl;have h1:Gu s s1 [] b:=(NX ih1).same rfl rfl;have:=h1.more hp
   exact this.trans ih2
 | @un_prim s r _ _ ih=>
  cases r with
  | err e=>trivial
  | ok s2 b=>exact ih
 | un_deep _ _=>trivial
 | un_err _ _ _ _=>trivial
 | @un_ok s s1 a _ _ _ ih=>
  have h1:Gu s s1 [] a:=Gu.same ih rfl rfl;have hp:Gu s1 (Bt (B3 s1) {kind:=8,kids:=[(a:Int)]}) ([]++[(a:Int)]) s1.out.length:=Gu.node (s:=s1) rfl rfl rfl ⟨by simp,Ba,Ba⟩ rfl rfl
  exact h1.more hp
 | pr_sign _ _=>trivial
 | pr_deep _ _=>trivial
 | pr_err _ _ _ _=>trivial
 | pr_open _ _ _ _ _=>trivial
 | pr_ok _ _ _ _ ih=>exact Gu.same ih rfl rfl
 | pr_end _=>trivial
 | @pr_num s h=>
  have h0:=(Gn hT s).num h
  exact Gu.node (s:=s) rfl rfl (CN (by show decide (0≤(Aa T s).num)=true;simpa using h0) ⟨rfl,rfl,rfl,rfl⟩) ⟨by simp,Ba,Ba⟩ rfl rfl
 | @pr_text s h=>
  exact Gu.node (s:=s) rfl rfl (CN (by show Mn (Aa T s).text=true;exact(Gn hT s).text h) ⟨rfl,rfl,rfl,rfl⟩) ⟨(Gn hT s).len,Ba,Ba⟩ rfl rfl
 | @pr_dead s h=>exact Gu.node (s:=s) rfl rfl rfl ⟨by simp,Ba,Ba⟩ rfl rfl
 | @pr_ref s h _=>
  have h0:=(Gn hT s).ref h
  exact Gu.node (s:=s) rfl rfl (CN (by show AZ (Aa T s).ref=true;exact h0) ⟨rfl,rfl,rfl,rfl⟩) ⟨by simp,IF h0,Ba⟩ rfl rfl
 | @pr_range s h _ h' hr=>
  have h0:=(Gn hT s).ref h;have h1:=(Gn hT (Al (Al s))).ref h'
  exact Gu.node (s:=s) rfl rfl (CN (by show(AZ (Aa T s).ref&&(AZ (Aa T (Al (Al s))).ref&&Bo (Aa T s).ref (Aa T (Al (Al s))).ref))=true;rw[h0,h1,hr];rfl) ⟨rfl,rfl,rfl,rfl⟩) ⟨by simp,IF h0,IF h1⟩ rfl rfl
 | pr_norange _ _ _=>trivial
 | @pr_true s _ _=>exact Gu.node (s:=s) rfl rfl rfl ⟨by simp,Ba,Ba⟩ rfl rfl
 | @pr_false s _ _=>exact Gu.node (s:=s) rfl rfl rfl ⟨by simp,Ba,Ba⟩ rfl rfl
 | pr_nocall _ _ _ _=>trivial
 | pr_calldeep _ _ _ _ _=>trivial
 | @pr_call0 s h h1 h2 _ _ _=>
  have hn:=PG hT h h1 h2;have hc:=IU hn []
  exact Gu.node (s:=s) rfl hc.1 hc.2 ⟨N7 hn,Ba,Ba⟩ rfl rfl
 | @pr_call s r h h1 h2 _ _ _ _ ih=>
  cases r with
  | err e=>trivial
  | ok s2 b=>exact Gu.same (ih (PG hT h h1 h2)) rfl rfl
 | ar_err _ _=>trivial
 | @ar_go x ks s s1 a r _ _ _ ih1 ih2=>
  cases r with
  | err e=>trivial
  | ok s2 b=>
   intro hn;have h2:Gu s1 s2 (ks++[(a:Int)]) b:=Gu.same (ih2 hn) rfl rfl;have h1:Gu s s1 [] a:=ih1;have:=h1.more h2
   rwa [AbD] at this
 | ar_open _ _ _ _=>trivial
 | @ar_end x ks s s1 a _ _ _ ih=>
  intro hn;have hc:=IU hn (ks++[(a:Int)]);have hp:Gu s1 (Bt (B3 (Al s1)) {kind:=7,text:=x,kids:=ks++[(a:Int)]}) (ks++[(a:Int)]) s1.out.length:=Gu.node (s:=s1) rfl hc.1 hc.2 ⟨N7 hn,Ba,Ba⟩ rfl rfl;have h1:Gu s s1 [] a:=ih;have:=h1.more hp
  rwa [AbD] at this
theorem DS.tree{T:List As}{l:List Aj}(hT:∀t∈T,Kg t)(h:DS T (.ok l)):BV l=true∧DN l:=by
 obtain⟨s,a,hp,_,he⟩:=h;obtain⟨new,h1,h2,h3⟩:Gu ⟨0,[],0⟩ s [] a:=hp.puts hT;have:l=new:=by rw[←he,h1];rfl
 subst this;refine⟨?_,h2⟩;have h4:Bk 0 [] l=some [(a:Int)]:=h3 [];rw[BV,h4];rfl
def K2:List (List UInt8):=[[61],[60,62],[60],[60,61],[62],[62,61],[38],[43],[45],[42],[47]]
theorem Z1{u:Nat}(hu:u≤9223372036854775807){R:List UInt8}(hR:R=[]∨Ar (Ab R 0)=false):Ct (Lib.decDigits u++R)=some (⟨1,[],u,A4,0⟩,(Lib.decDigits u).length):=by
 obtain⟨h1,h2,h3,h4,h5⟩:=FH u u (Ab2 _);have h0:Ar (Ab (Lib.decDigits u++R) 0)=true:=by
  rw[EF h2];obtain⟨c,hm,e⟩:=DO (AbB.2 h2);rw[e];exact h1 c hm
 have hs:Ak Ar (Lib.decDigits u++R)=Lib.decDigits u:=by
  rw[Fm Ar _ R h1];have:Ak Ar R=[]:=by
   rcases hR with rfl | h
   ·rfl
   ·cases R with
    | nil=>rfl
    | cons c r=>
     have:Ar (c.toNat:Int)=false:=h;simp[Ak,this]
  rw[this,AbD]
 have hc:((u:Nat):Int)≤9223372036854775807∧(Ab (Lib.decDigits u) 0≠48∨(Lib.decDigits u).length=1):=by
  refine⟨by omega,?_⟩;by_cases hz:u=0
  ·exact .inr (h5 hz)
  ·exact .inl (h4 hz)
 rw[Ct,h0,if_pos rfl,K1 (by rw[hs];exact h2),hs,h3,if_pos hc]
theorem Wc{X R:List UInt8}{t:As}{a:Nat}(hX:X≠[])(hb:Ab X 0≠32)(h1:Ct (X++R)=some (t,X.length)):FY (X++R) a=(FY R (a+X.length)).map ({t with at_:=(a:Int)}::·):=by
 have hs:Ak FD (X++R)=[]:=by
  cases X with
  | nil=>exact absurd rfl hX
  | cons c r=>
   have:FD (c.toNat:Int)=false:=by simp[FD];exact hb
   simp[Ak,this]
 have:=Gz (l:=X++R) (l':=X++R) (a:=a) (t:=t) (k:=X.length) (by rw[hs];rfl) (by simp[hX]) h1 (AbB.2 hX);rw[this,hs];simp
theorem Nb(u:Nat):Ar (Ab (Lib.decDigits u) 0)=true∧Lib.decDigits u≠[]∧Ab (Lib.decDigits u) 0≠32:=by
 obtain⟨h1,h2,_⟩:=FH u u (Ab2 _);obtain⟨c,hm,e⟩:=DO (AbB.2 h2);exact⟨by rw[e];exact h1 c hm,h2,XD h2 h1⟩
inductive Tr:Bool→Type where
 | leaf (n:Aj):Tr false
 | neg (a:Tr false):Tr false
 | two (k:Int) (a b:Tr false):Tr false
 | call (x:List UInt8) (ks:Tr true):Tr false
 | nil:Tr true
 | snoc (ks:Tr true) (a:Tr false):Tr true
def Tr.cnt:{b:Bool}→Tr b→Nat
 | _,.leaf _=>1
 | _,.neg a=>a.cnt+1
 | _,.two _ a b=>a.cnt+b.cnt+1
 | _,.call _ ks=>ks.cnt+1
 | _,.nil=>0
 | _,.snoc ks a=>ks.cnt+a.cnt
def Tr.kids(o:Nat):{b:Bool}→Tr b→List Int
 | _,.snoc ks a=>ks.kids o++[((o+ks.cnt+a.cnt - 1:Nat):Int)]
 | _,_=>[]
def Tr.flat:(o:Nat)→{b:Bool}→Tr b→List Aj
 | _,_,.leaf n=>[n]
 | o,_,.neg a=>a.flat o++[{kind:=8,kids:=[((o+a.cnt - 1:Nat):Int)]}]
 | o,_,.two k a b=>a.flat o++b.flat (o+a.cnt)++[{kind:=k,kids:=[((o+a.cnt - 1:Nat):Int),((o+a.cnt+b.cnt - 1:Nat):Int)]}]
 | o,_,.call x ks=>ks.flat o++[{kind:=7,text:=x,kids:=ks.kids o}]
 | _,_,.nil=>[]
 | o,_,.snoc ks a=>ks.flat o++a.flat (o+ks.cnt)
def Tr.Fit:{b:Bool}→Tr b→Prop
 | _,.leaf n=>1≤n.kind∧n.kind≤6∧n.kids=[]∧Au n=true
 | _,.neg a=>a.Fit
 | _,.two k a b=>9≤k∧k≤19∧a.Fit∧b.Fit
 | _,.call x ks=>C2 x=true∧ks.Fit
 | _,.nil=>True
 | _,.snoc ks a=>ks.Fit∧a.Fit
theorem Tr.flat_len:∀{b:Bool} (t:Tr b) (o:Nat),(t.flat o).length=t.cnt
 | _,.leaf n,o=>rfl
 | _,.neg a,o=>by simp[Tr.flat,Tr.cnt,flat_len a]
 | _,.two k a b,o=>by simp[Tr.flat,Tr.cnt,flat_len a,flat_len b];omega
 | _,.call x ks,o=>by simp[Tr.flat,Tr.cnt,flat_len ks]
 | _,.nil,o=>rfl
 | _,.snoc ks a,o=>by simp[Tr.flat,Tr.cnt,flat_len ks,flat_len a]
theorem Tr.snoc_form(ts:Tr true):ts=.nil∨∃ks a,ts=.snoc ks a:=by
 cases ts with
 | nil=>exact .inl rfl
 | snoc ks a=>exact .inr ⟨ks,a,rfl⟩
theorem Tr.split(k:Nat):∀(ts:Tr true),ts.Fit→k≤(ts.kids 0).length→∃ts1 ks:Tr true,ts.flat 0=ts1.flat 0++ks.flat ts1.cnt∧ts.kids 0=ts1.kids 0++ks.kids ts1.cnt∧(ks.kids ts1.cnt).length=k∧ts.cnt=ts1.cnt+ks.cnt∧ts1.Fit∧ks.Fit:=by
 induction k with
 | zero=>exact λts hf _=>⟨ts,.nil,by simp[Tr.flat],by simp[Tr.kids],rfl,rfl,hf,trivial⟩
 | succ k ih=>
  intro ts hf hk;rcases Tr.snoc_form ts with rfl | ⟨rs,a,rfl⟩
  ·simp[Tr.kids] at hk
  ·simp only[Tr.kids,Aa9,Ad1] at hk;obtain⟨ts1,ks,h1,h2,h3,h4,h5,h6⟩:=ih rs hf.1 Aeb;refine⟨ts1,.snoc ks a,?_,?_,?_,?_,h5,h6,hf.2⟩
   ·simp only[Tr.flat,h1,h4,Abn,AbP]
   ·simp only[Tr.kids,h2,h4,Abn,AbP]
   ·simp only[Tr.kids,Aa9,h3,Ad1]
   ·simp only[Tr.cnt,h4,Adm]
theorem VW{n:Aj}(h:Fv n=n.kids.length):(1≤n.kind∧n.kind≤6∧n.kids=[])∨n.kind=7∨(n.kind=8∧n.kids.length=1)∨(9≤n.kind∧n.kind≤19∧n.kids.length=2):=by
 unfold Fv BC at h;by_cases h1:n.kind<1∨19<n.kind
 ·rw[if_pos h1,if_neg Aef] at h;omega
 rw[if_neg h1] at h;by_cases h2:n.kind=7
 ·exact .inr (.inl h2)
 rw[if_neg h2] at h;by_cases h3:n.kind=8
 ·rw[if_pos h3,if_neg Aef] at h;exact .inr (.inr (.inl ⟨h3,by omega⟩))
 rw[if_neg h3] at h;by_cases h4:8<n.kind
 ·rw[if_pos h4,if_neg Aef] at h;exact .inr (.inr (.inr ⟨by omega,by omega,by omega⟩))
 ·rw[if_neg h4,if_neg Aef] at h;exact .inl ⟨by omega,by omega,AbA Aeb⟩
theorem OL{n:Aj}(hp:Au n=true)(hk:8≤n.kind):n={kind:=n.kind,kids:=n.kids}:=by
 simp only[Au,Abr,decide_eq_true_eq] at hp;have hb:A7 n=n:=by
  unfold A7;rw[if_neg Aeb,if_neg Aeb,if_neg Aeb,if_neg Aeb,if_neg Aeb,if_neg Aeb]
 rw[hb] at hp;obtain⟨_,h1,h2,h3,h4⟩:=hp;cases n;simp_all
theorem V7{n:Aj}(hp:Au n=true)(hk:n.kind=7):n={kind:=7,text:=n.text,kids:=n.kids}∧C2 n.text=true:=by
 simp only[Au,Abr,decide_eq_true_eq] at hp;have hb:A7 n={n with text:=[]}:=by
  unfold A7;rw[if_neg Aeb,if_neg Aeb,if_neg Aeb,if_pos hk]
 have ho:F9 n=C2 n.text:=by
  unfold F9;rw[if_neg Aeb,if_neg Aeb,if_neg Aeb,if_pos hk]
 rw[hb,ho] at hp;obtain⟨h0,h1,h2,h3,h4⟩:=hp;refine⟨?_,h0⟩;cases n;simp_all
theorem ZB{α:Type}{p:List α→Prop}(h0:p [])(h1:∀l a,p l→p (l++[a])):∀l,p l:=by
 intro l;have:∀(n:Nat) (l:List α),l.length=n→p l:=by
  intro n
  induction n with
  | zero=>intro l hl;rw[AbA hl];exact h0
  | succ n ih=>
   intro l hl;have a0:l≠[]:=by intro e;subst e;simp at hl
   rw[←List.dropLast_concat_getLast a0];exact h1 _ _ (ih _ (by simp[hl]))
 exact this _ l rfl
theorem VM:∀(l:List Aj) (st:List Int),Bk 0 [] l=some st→∃ts:Tr true,ts.flat 0=l∧ts.kids 0=st∧ts.Fit:=by
 refine ZB ?_ ?_
 ·intro st h;simp only[Bk,AaZ] at h;exact⟨.nil,rfl,h,trivial⟩
 ·intro l n ih st h;rw[DX] at h
  cases e:Bk 0 [] l with
  | none=>rw[e] at h;cases h
  | some s0=>
   rw[e] at h;simp only[Ac4,Bk,AbP] at h;obtain⟨ts,hf,hk,a8⟩:=ih s0 e
   cases e2:Dp l.length s0 n with
   | none=>rw[e2] at h;cases h
   | some s1=>
    rw[e2] at h;simp only[AaZ] at h;subst h;unfold Dp at e2
    split at e2
    ·rename_i hc;simp only[AaZ] at e2;obtain⟨c1,c2,c3,c4⟩:=hc;obtain⟨ts1,ks,a1,a2,a3,a4,a5,a6⟩:=ts.split n.kids.length a8 (by rw[hk];exact c2);have a0:ks.kids ts1.cnt=n.kids:=by
      rw[←c3,←hk,a2];have:(ts1.kids 0++ks.kids ts1.cnt).length - n.kids.length=(ts1.kids 0).length:=by rw[Aa9,a3];omega
      rw[this,AdV];rfl
     have a7:s0.take (s0.length - n.kids.length)=ts1.kids 0:=by
      rw[←hk,a2];have:(ts1.kids 0++ks.kids ts1.cnt).length - n.kids.length=(ts1.kids 0).length:=by rw[Aa9,a3];omega
      rw[this,List.take_left'];rfl
     have a9:l.length=ts1.cnt+ks.cnt:=by rw[←hf,Tr.flat_len,a4]
     have key:∀a:Tr false,a.Fit→a.cnt=ks.cnt+1→a.flat ts1.cnt=ks.flat ts1.cnt++[n]→∃ts:Tr true,ts.flat 0=l++[n]∧ts.kids 0=s1∧ts.Fit:=by
      intro a h1 h2 h3;refine⟨.snoc ts1 a,?_,?_,a5,h1⟩
      ·simp only[Tr.flat,AbP,h3];rw[←List.append_assoc,←a1,hf]
      ·simp only[Tr.kids,AbP];rw[←e2,a7,a9,h2];rfl
     rcases VW c1 with ⟨b1,b2,b3⟩ | b1 | ⟨b1,b2⟩ | ⟨b1,b2,b3⟩
     ·have aa:ks.kids ts1.cnt=[]:=by rw[a0,b3]
      rcases ks.snoc_form with rfl | ⟨rs,a,rfl⟩
      ·exact key (.leaf n) ⟨b1,b2,b3,c4⟩ rfl rfl
      ·simp[Tr.kids] at aa
     ·obtain⟨d1,d2⟩:=V7 c4 b1;refine key (.call n.text ks) ⟨d2,a6⟩ rfl ?_;simp only[Tr.flat,a0];rw[←d1]
     ·rcases ks.snoc_form with rfl | ⟨rs,a,rfl⟩
      ·simp[Tr.kids] at a3;omega
      ·rcases rs.snoc_form with rfl | ⟨rs',a',rfl⟩
       ·refine key (.neg a) a6.2 (by simp[Tr.cnt]) ?_;have hn:=OL c4 Aeb;rw[←a0,b1] at hn;simp only[Tr.flat,Tr.kids,Tr.cnt,AbN,Acu] at hn ⊢;rw[hn]
       ·simp[Tr.kids] at a3;omega
     ·rcases ks.snoc_form with rfl | ⟨rs,b,rfl⟩
      ·simp[Tr.kids] at a3;omega
      ·rcases rs.snoc_form with rfl | ⟨rs',a,rfl⟩
       ·simp[Tr.kids] at a3;omega
       ·rcases rs'.snoc_form with rfl | ⟨rs'',a',rfl⟩
        ·refine key (.two n.kind a b) ⟨b1,b2,a6.1.2,a6.2⟩ (by simp[Tr.cnt]) ?_;have hn:=OL c4 Aeb;rw[←a0] at hn;simp only[Tr.flat,Tr.kids,Tr.cnt,AbN,AbP,Acu,Ack] at hn ⊢;rw[←hn]
        ·simp[Tr.kids] at a3;omega
    ·cases e2
theorem Ju{l:List Aj}(h:BV l=true):∃t:Tr false,t.flat 0=l∧t.Fit:=by
 unfold BV at h
 split at h
 ·rename_i st e;obtain⟨ts,h1,h2,h3⟩:=VM l st e;have h:=of_decide_eq_true h;rcases ts.snoc_form with rfl | ⟨rs,a,rfl⟩
  ·rw[←h2] at h;simp[Tr.kids] at h
  ·rcases rs.snoc_form with rfl | ⟨rs',a',rfl⟩
   ·exact⟨a,by simpa[Tr.flat,Tr.cnt] using h1,h3.2⟩
   ·rw[←h2] at h;simp[Tr.kids] at h
 ·cases h
def DV(s:List UInt8):List UInt8:=34::(s.flatMap (λc=>if c=34 then[34,34] else[c])++[34])
def BZ(t:As):List UInt8:=if t.kind=1 then Lib.itoa t.num else if t.kind=2 then DV t.text else if t.kind=4 then BG t.ref else if t.kind=6 then Ea else t.text
def nA(t:As):As:={t with at_:=0}
def Ri:As:=⟨0,[],0,A4,0⟩
def sg(s:List UInt8):As:=⟨5,s,0,A4,0⟩
theorem Dw(s:List UInt8):BZ (sg s)=s:=rfl
theorem Js(t:As):BZ (nA t)=BZ t:=rfl
inductive FT:As→Prop
 | num {z:Int}:0≤z→z≤9223372036854775807→FT ⟨1,[],z,A4,0⟩
 | text {s:List UInt8}:Mn s=true→FT ⟨2,s,0,A4,0⟩
 | word {s:List UInt8}:KL s=true→AV s=false→FT ⟨3,s,0,A4,0⟩
 | ref {r:C3}:AZ r=true→FT ⟨4,[],0,r,0⟩
 | sign {s:List UInt8}:s∈Bf→FT (sg s)
 | dead:FT ⟨6,[],0,A4,0⟩
def NK(t:As)(R:List UInt8):Prop:=
 (t.kind=1→Ar (Ab R 0)=false)∧(t.kind=2→Ab R 0≠34)∧(t.kind=3∨t.kind=4→DM (Ab R 0)=false)∧(t.kind=5→t.text=[60]∨t.text=[62]→Ab R 0≠61∧Ab R 0≠62)
theorem Zp{R:List UInt8}(h:Ab R 0≠34):R.head?≠some 34:=by
 cases R with
 | nil=>simp
 | cons c r=>
  simp only[List.head?_cons,ne_eq,AaZ];rintro rfl;exact h rfl
theorem P6{p:Int→Bool}{R:List UInt8}(h:p (Ab R 0)=false):Ak p R=[]:=by
 cases R with
 | nil=>rfl
 | cons c r=>
  have:p (c.toNat:Int)=false:=h;simp[Ak,this]
theorem SO:∀(s R:List UInt8),Mn s=true→R.head?≠some 34→AR (s.flatMap (λc=>if c=34 then[34,34] else[c])++34::R)=some (s,(s.flatMap (λc=>if c=34 then[34,34] else[c])).length+1)
 | [],R,_,h=>YI h
 | c::s,R,hp,h=>by
  have hp':Mn s=true:=by
   simp only[Mn,decide_eq_true_eq] at hp ⊢;intro j hj;exact hp (j+1) AeN
  have hc:¬c<32:=by
   simp only[Mn,decide_eq_true_eq] at hp;have h0:32≤(c.toNat:Int):=hp 0 Aej;intro hh;have:=AcZ.1 hh;simp at this;omega
  have ih:=SO s R hp' h;by_cases a0:c=34
  ·subst a0;simp only[AbV,if_true,Ack,AbN];rw[Vl,ih];simp
  ·simp only[AbV,if_neg a0,Ack,AbN];rw[YH a0 hc,ih];simp
theorem Wt{s R:List UInt8}(hp:Mn s=true)(h:Ab R 0≠34):Ct (DV s++R)=some (⟨2,s,0,A4,0⟩,(DV s).length):=by
 have hb:Ab (DV s++R) 0=34:=rfl;rw[Ct,hb,show Ar 34=false from rfl,if_neg Aej,if_pos rfl,E3];have e:(DV s++R).drop 1=s.flatMap (λc=>if c=34 then[34,34] else[c])++34::R:=by simp[DV]
 rw[e,SO s R hp (Zp h)];simp[DV]
theorem Ob{r:C3}(h:AZ r=true):(∀c∈BG r,DM (c.toNat:Int)=true)∧GC (Ab (BG r) 0)=true:=by
 obtain⟨hs,c0,c1,r0,r1⟩:=DD h;obtain⟨hc,a3,_⟩:=MY c0 c1;obtain⟨hd,a5,_,_⟩:=Gy (z:=r.row+1) Aeb Aeb;have a0:∀b c,c∈D4 b→c=36:=λb c hm=>by cases b<;>simp[D4] at hm;exact hm
 have wcap:∀z,AQ z=true→GC z=true:=λz hz=>by simp[GC,hz]
 have wld:∀z,Tp z=true→DM z=true:=λz hz=>by
  simp only[Tp,Fx,Aci] at hz;simp only[DM,GC,Aci];rcases hz with (hz | hz) | hz
  ·exact .inl (.inl (.inl (.inl hz)))
  ·exact .inl (.inl (.inl (.inr hz)))
  ·exact .inl (.inr hz)
 refine⟨?_,?_⟩
 ·intro c hm;simp only[BG,Ab1] at hm;rcases hm with hm | ((hm | hm) | hm) | hm
  ·by_cases a1:r.sheet=[]
   ·simp[a1] at hm
   ·simp only[a1,if_false,Ab1,Aah] at hm;rcases hm with hm | hm
    ·obtain⟨_,_,a4⟩:=Gd (hs.resolve_left a1);obtain⟨j,hj,rfl⟩:=AcP.1 hm;have:=a4 j hj;rw[B2 hj] at this;exact wld _ this
    ·subst hm;rfl
  ·rw[a0 _ c hm];rfl
  ·have:=wcap _ (hc c hm);simp[DM,this]
  ·rw[a0 _ c hm];rfl
  ·have:=hd c hm;simp[DM,this]
 ·have a2:∀x,GC (Ab (D4 r.ac++Fu r.col++x) 0)=true:=λx=>by
   cases ha:r.ac with
   | true=>rfl
   | false=>
    have:D4 false++Fu r.col++x=Fu r.col++x:=rfl;rw[this,B4 a3];obtain⟨c,hm,e⟩:=DO a3;rw[e];exact wcap _ (hc c hm)
  by_cases a1:r.sheet=[]
  ·have:=a2 (D4 r.ar++Lib.itoa (r.row+1))
   simpa[BG,a1] using this
  ·have hn:=hs.resolve_left a1;have hl:Fx (Ab r.sheet 0)=true:=by
    simp only[D5,Abr,decide_eq_true_eq] at hn;exact hn.1.2
   have:Ab (BG r) 0=Ab r.sheet 0:=by
    simp only[BG,a1,if_false,Abn];exact B4 (AbB.2 a1)
   rw[this,PN,hl];rfl
theorem KR{z:Int}(h:GC z=true):Ar z=false∧z≠34∧z≠32∧z≠35∧z≠61∧z≠62:=by
 simp only[GC,AQ,Aci,Abr,decide_eq_true_eq] at h;refine⟨?_,by omega,by omega,by omega,by omega,by omega⟩;simp[Ar];omega
theorem Nk{s:List UInt8}(h:KL s=true):s≠[]∧s.length≤12∧AQ (Ab s 0)=true∧∀c∈s,DM (c.toNat:Int)=true:=by
 simp only[KL,Abr,decide_eq_true_eq] at h;obtain⟨⟨⟨h0,h1⟩,h2⟩,h3⟩:=h;refine⟨h0,h1,h2,λc hc=>?_⟩;obtain⟨j,hj,rfl⟩:=AcP.1 hc;have:=h3 j hj;rw[B2 hj] at this;simp only[Xl,Aci] at this;simp only[DM,GC,Aci];rcases this with h | h
 ·exact .inl (.inl (.inl (.inl h)))
 ·exact .inl (.inr h)
theorem M4{z:Int}(h:AQ z=true):GC z=true:=by simp[GC,h]
theorem KD:∀s∈Bf,s≠[]∧Ar (Ab s 0)=false∧Ab s 0≠34∧GC (Ab s 0)=false∧Ab s 0≠35∧Ab s 0≠32∧DM (Ab s 0)=false:=by decide
theorem Aau{s R:List UInt8}(hs:s∈Bf)(h:s=[60]∨s=[62]→Ab R 0≠61∧Ab R 0≠62):Ct (s++R)=some (sg s,s.length):=by
 obtain⟨a0,a1,a2,a3,a4,_,_⟩:=KD s hs;have hb:Ab (s++R) 0=Ab s 0:=EF a0 _;have hf:Bf.find? (λx=>Lib.hasPrefix (s++R) x)=some s:=by
  rcases YL hs with hl | hp
  ·match s,hl with
   | [c],_=>
    have hn:([c]++R).take 2∉CM:=by
     cases R with
     | nil=>simp[CM]
     | cons d r=>
      simp only[Ack,AbN,List.take,CM,Ab0,AcC,and_true,AbH,or_false];rintro(⟨rfl,rfl⟩ | ⟨rfl,rfl⟩ | ⟨rfl,rfl⟩)
      ·exact(h (.inl rfl)).2 rfl
      ·exact(h (.inl rfl)).1 rfl
      ·exact(h (.inr rfl)).1 rfl
    rw[IG Aej hn,hb];have:∀s∈Bf,s.length=1→ZD (Ab s 0)=true:=Aef
    rw[this [c] hs rfl];rfl
  ·have h2:s.length=2:=by
    have:∀p∈CM,p.length=2:=Aef
    exact this _ hp
   have ht:(s++R).take 2=s:=by rw[←h2,List.take_left]
   rw[Jr (by rw[ht];exact hp),ht]
 rw[Ct,hb,a1,if_neg Aej,if_neg a2,a3,if_neg Aej,Fk,Na (by rw[hb];exact a4),if_neg Aej,hf];rfl
theorem Aat{t:As}(h:FT t){R:List UInt8}(hn:NK t R):Ct (BZ t++R)=some (t,(BZ t).length):=by
 cases h with
 | @num z h0 h1=>
  show Ct (Lib.itoa z++R)=some (_,(Lib.itoa z).length);have e:((z.toNat:Nat):Int)=z:=Aeb
  rw[GR h0,Z1 (u:=z.toNat) Aeb (.inr (hn.1 rfl)),e]
 | text hp=>exact Wt hp (hn.2.1 rfl)
 | @word s hf ho=>
  obtain⟨f0,f1,f2,f3⟩:=Nk hf;obtain⟨b0,b1,_⟩:=KR (M4 f2);have hs:Ak DM (s++R)=s:=by rw[Fm DM s R f3,P6 (hn.2.2.1 (.inl rfl)),AbD]
  show Ct (s++R)=some (_,s.length)
  rw[Ct,EF f0,b0,if_neg Aej,if_neg b1,M4 f2,if_pos rfl,Eg,hs,ho,if_neg Aej,hf,if_pos rfl]
 | @ref r hm=>
  obtain⟨g0,g1⟩:=Ob hm;obtain⟨a0,a1⟩:=Pw hm;obtain⟨b0,b1,_⟩:=KR g1;have hs:Ak DM (BG r++R)=BG r:=by rw[Fm DM _ R g0,P6 (hn.2.2.1 (.inr rfl)),AbD]
  show Ct (BG r++R)=some (_,(BG r).length)
  rw[Ct,EF (Ov hm),b0,if_neg Aej,if_neg b1,g1,if_pos rfl,Eg,hs,a0,if_pos rfl,a1]
 | sign hs=>exact Aau hs (hn.2.2.2 rfl)
 | dead=>rfl
theorem LO{t:As}(h:FT t):BZ t≠[]∧Ab (BZ t) 0≠32:=by
 cases h with
 | @num z h0 h1=>
  show Lib.itoa z≠[]∧Ab (Lib.itoa z) 0≠32;rw[GR h0]
  exact⟨(Nb _).2.1,(Nb _).2.2⟩
 | text hp=>exact⟨by simp[BZ,DV],by show(34:Int)≠32;decide⟩
 | word hf ho=>
  obtain⟨f0,f1,f2,f3⟩:=Nk hf
  exact⟨f0,(KR (M4 f2)).2.2.1⟩
 | ref hm=>exact⟨Ov hm,(KR (Ob hm).2).2.2.1⟩
 | sign hs=>
  obtain⟨a0,a1,a2,a3,a4,a5,_⟩:=KD _ hs
  exact⟨a0,a5⟩
 | dead=>exact⟨by simp[BZ,Ea],by decide⟩
def PL:List As→Prop
 | []=>True
 | t::r=>NK t (r.flatMap BZ)∧PL r
theorem R5:∀(ts:List As) (a:Nat),(∀t∈ts,FT t)→PL ts→∃T,FY (ts.flatMap BZ) a=some T∧T.map nA=ts++[Ri]
 | [],a,_,_=>⟨_,Fa rfl,rfl⟩
 | t::r,a,hc,hl=>by
  have ht:=hc t Aej;obtain⟨T,h1,h2⟩:=R5 r (a+(BZ t).length) (λx hx=>hc x Afx) hl.2;obtain⟨n0,n1⟩:=LO ht;rw[AbV,Wc n0 n1 (Aat ht hl.1),h1];refine⟨_,rfl,?_⟩;simp only[Ach,h2,Ack,AcC,and_true];cases ht<;>rfl
theorem XC:∀(n:Nat) (l:List UInt8),l.length≤n→(∀c∈l,Ar (c.toNat:Int)=true)→l≠[]→(Ab l 0≠48∨l.length=1)→(Lib.itoa (A1 0 l)).length≤l.length
 | n,l,hn,hd,hne,h0=>by
  have hb:=GY l (λj hj=>by
   have:=hd _ (AbY hj)
   simpa[B2 hj] using this)
  rw[GR hb.1];obtain⟨r,c,rfl⟩:∃r c,l=r++[c]:=⟨l.dropLast,l.getLast hne,(AcY hne).symm⟩;have hc:=hd c Aej;simp only[Ar,Abr,decide_eq_true_eq] at hc
  cases r with
  | nil=>
   have e:A1 0 ([]++[c])=(c.toNat:Int) - 48:=by
    rw[FL];have:A1 0 []=0:=rfl;omega
   rw[e,CV Aeb]
   simp
  | cons d r=>
   have a0:∀x∈d::r,Ar (x.toNat:Int)=true:=λx hx=>hd x (Acf _ hx);have h1:Ab (d::r) 0≠48:=by
    rcases h0 with h0 | h0
    ·exact h0
    ·simp at h0
   match n with
   | 0=>simp at hn
   | n+1=>
    have ih:=XC n (d::r) (by simp at hn ⊢;omega) a0 Aej (.inl h1);have a1:=GY (d::r) (λj hj=>by
     have:=a0 _ (AbY hj)
     simpa[B2 hj] using this)
    rw[GR a1.1] at ih;have a2:∀x∈d::r,48≤x.toNat:=λx hx=>by
     have:=a0 x hx;simp only[Ar,Abr,decide_eq_true_eq] at this;omega
    have a3:A1 0 (d::r)≠0:=λhz=>by
     obtain⟨_,h2⟩:=Fy (d::r) 0 Aeb a2 hz;have:=h2 d Aej;exact h1 (by show(d.toNat:Int)=48;omega)
    have hx:=FL 0 (d::r) c;have e1:10≤(A1 0 (d::r++[c])).toNat:=Aeb
    have e2:(A1 0 (d::r++[c])).toNat / 10=(A1 0 (d::r)).toNat:=Aeb
    rw[Eo e1,e2];simp only[Aa9,Ad1];omega
theorem PT:∀(n:Nat) (l:List UInt8) (x:List UInt8×Nat),l.length≤n→AR l=some x→(x.1.flatMap (λc=>if c=(34:UInt8) then[34,34] else[c])).length+1≤x.2
 | n,[],x,hn,h=>by simp[AR] at h
 | 0,c::l,x,hn,h=>by simp at hn
 | n+1,c::l,x,hn,h=>by
  simp only[Abe] at hn;by_cases h1:c=34
  ·subst h1;by_cases hq:l.head?=some 34
   ·cases l with
    | nil=>cases hq
    | cons d r=>
     simp only[List.head?_cons,AaZ] at hq;subst hq;rw[Vl] at h
     cases e:AR r with
     | none=>rw[e] at h;cases h
     | some y=>
      rw[e] at h;simp only[AbG,AaZ] at h;have:=PT n r y (by simp at hn;omega) e;subst h;simp only[AbV,if_true,Aa9,Abe,Ab3];omega
   ·rw[YI hq] at h;simp only[AaZ] at h;subst h;simp
  ·by_cases h2:c<32
   ·rw[WK h1 h2] at h;cases h
   ·rw[YH h1 h2] at h
    cases e:AR l with
    | none=>rw[e] at h;cases h
    | some y=>
     rw[e] at h;simp only[AbG,AaZ] at h;have:=PT n l y Aeb e;subst h;simp only[AbV,if_neg h1,Aa9,Abe,Ab3];omega
theorem Yt{l:List UInt8}{t:As}{k:Nat}(h:Ct l=some (t,k)):FT t∧(BZ t).length≤k:=by
 unfold Ct at h
 split at h
 ·rename_i h0;have a0:Ak Ar l≠[]:=by
   have:=(IH (p:=Ar) (l:=l) (by
    cases l with
    | nil=>cases h0
    | cons a b=>simp) h0).1
   exact AbB.1 this
  rw[K1 a0] at h
  split at h
  ·rename_i hc;simp only[AaZ,AbJ] at h;obtain⟨rfl,rfl⟩:=h;have hb:=GY (Ak Ar l) (λj hj=>by
    have hh:=Hn Ar l _ (AbY hj)
    simpa[B2 hj] using hh)
   refine⟨.num hb.1 hc.1,?_⟩;exact XC _ _ (Ab2 _) (Hn Ar l) a0 hc.2
  ·cases h
 ·split at h
  ·unfold E3 at h
   cases e:AR (l.drop 1) with
   | none=>rw[e] at h;cases h
   | some x=>
    rw[e] at h;simp only[AbG,AaZ,AbJ] at h;obtain⟨rfl,rfl⟩:=h;have h1:=ME _ e;have h2:=PT _ _ x (Ab2 _) e;refine⟨.text h1.1,?_⟩;show(DV x.1).length≤_;simp only[DV,Abe,Aa9,Ab3];omega
  ·split at h
   ·unfold Eg at h;simp only at h
    split at h
    ·rename_i hr;simp only[AaZ,AbJ] at h;obtain⟨rfl,rfl⟩:=h;obtain⟨h1,h2⟩:=Vh hr;refine⟨.ref h1,?_⟩;show(BG _).length≤_;rw[h2];exact Ab2 _
    ·rename_i hr
     split at h
     ·rename_i hf;simp only[AaZ,AbJ] at h;obtain⟨rfl,rfl⟩:=h;exact⟨.word hf Afp,Ab2 _⟩
     ·cases h
   ·unfold Fk at h
    split at h
    ·simp only[AaZ,AbJ] at h;obtain⟨rfl,rfl⟩:=h;exact⟨.dead,Ab2 _⟩
    ·cases e:Bf.find? λs=>Lib.hasPrefix l s with
     | none=>rw[e] at h;cases h
     | some x=>
      rw[e] at h;simp only[AbG,AaZ,AbJ] at h;obtain⟨rfl,rfl⟩:=h;exact⟨.sign (Adl e),Ab2 _⟩
theorem Rz:∀(n:Nat) (l:List UInt8) (a:Nat) {out:List As},l.length≤n→FY l a=some out→(∀t∈out,nA t=Ri∨FT (nA t))∧(out.flatMap BZ).length≤l.length
 | n,l,a,out,hn,h=>by
  cases e:l.drop (Ak FD l).length with
  | nil=>
   rw[Fa e] at h;simp only[AaZ] at h;subst h;refine⟨λt ht=>?_,by simp[BZ]⟩;rw[Aah.1 ht]
   exact .inl rfl
  | cons c r=>
   have hl':=congrArg List.length e;simp at hl'
   cases ho:Ct (c::r) with
   | none=>rw[FZ e Aej ho] at h;cases h
   | some x=>
    obtain⟨t,k⟩:=x;have hk:=Fe Aej ho;have hk2:=Qr ho;have hok:=Yt ho;rw[Gz e Aej ho hk] at h
    cases hr:FY ((c::r).drop k) (a+(Ak FD l).length+k) with
    | none=>rw[hr] at h;cases h
    | some y=>
     rw[hr] at h;simp only[AbG,AaZ] at h;subst h
     match n with
     | 0=>omega
     | n+1=>
      have hd:((c::r).drop k).length=r.length+1 - k:=Aej
      have ih:=Rz n ((c::r).drop k) _ Afz hr;rw[hd] at ih;have a0:k≤r.length+1:=hk2;refine⟨λt' ht=>?_,?_⟩
      ·rcases Ab0.1 ht with rfl | ht
       ·refine .inr ?_;have:nA {t with at_:=((a+(Ak FD l).length:Nat):Int)}=t:=by
         cases hok.1<;>rfl
        rw[this];exact hok.1
       ·exact ih.1 t' ht
      ·rw[AbV,Aa9];have:BZ {t with at_:=((a+(Ak FD l).length:Nat):Int)}=BZ t:=rfl;rw[this];have:=hok.2;have:=ih.2;omega
def BT(k:Int):Nat:=if k=8 then 5 else if 9≤k∧k≤14 then 1 else if k=15 then 2 else if k=16∨k=17 then 3 else if k=18∨k=19 then 4 else 6
def Tr.rank:{b:Bool}→Tr b→Nat
 | _,.neg _=>5
 | _,.two k _ _=>BT k
 | _,_=>6
def F3(k:Int):List UInt8:=K2.getD (k - 9).toNat []
def C1(n:Aj):List As:=
 if n.kind=1 then[⟨1,[],n.num,A4,0⟩]
 else if n.kind=2 then[⟨2,n.text,0,A4,0⟩]
 else if n.kind=3 then[⟨3,if n.num=1 then Dc else CL,0,A4,0⟩]
 else if n.kind=4 then[⟨6,[],0,A4,0⟩]
 else if n.kind=5 then[⟨4,[],0,n.ref,0⟩]
 else[⟨4,[],0,n.ref,0⟩,sg [58],⟨4,[],0,n.to,0⟩]
def brk(b:Bool)(l:List As):List As:=if b then sg [40]::(l++[sg [41]]) else l
def Tr.toks:{b:Bool}→Tr b→List As
 | _,.leaf n=>C1 n
 | _,.neg a=>sg [45]::brk (decide (a.rank<5)) a.toks
 | _,.two k a b=>brk (decide (a.rank<BT k)) a.toks++sg (F3 k)::brk (decide (b.rank<BT k+1)) b.toks
 | _,.call x .nil=>[⟨3,x,0,A4,0⟩,sg [40],sg [41]]
 | _,.call x (.snoc rs a)=>⟨3,x,0,A4,0⟩::sg [40]::(rs.toks++(a.toks++[sg [41]]))
 | _,.nil=>[]
 | _,.snoc ks a=>ks.toks++(a.toks++[sg [44]])
def Tr.text{b:Bool}(t:Tr b):List UInt8:=t.toks.flatMap BZ
def Tr.opt(n:Nat)(t:Tr false):List As:=brk (decide (t.rank<n)) t.toks
def Tr.Num{b:Bool}(t:Tr b):Prop:=∀k∈t.toks,k.num≤9223372036854775807
theorem WM:∀o,o<11→K2.getD o []∈Bf:=by decide
theorem Jq{k:Int}(h0:9≤k)(h1:k≤19):F3 k∈Bf:=WM _ Aeb
theorem F6{b:Bool}{l:List As}{t:As}(h:t∈brk b l):t∈l∨t=sg [40]∨t=sg [41]:=by
 unfold brk at h
 split at h
 ·simp only[Ab0,Ab1,AbH,or_false] at h;rcases h with h | h | h
  ·exact .inr (.inl h)
  ·exact .inl h
  ·exact .inr (.inr h)
 ·exact .inl h
theorem BQ{b:Bool}{l:List As}{t:As}(h:t∈l):t∈brk b l:=by
 unfold brk
 split
 ·simp[h]
 ·exact h
theorem Ee{n:Aj}(h:Au n=true):F9 n=true:=by
 simp only[Au,Abr] at h;exact h.1
theorem Yb{n:Aj}(h0:1≤n.kind)(h1:n.kind≤6)(hp:Au n=true)(hn:∀k∈C1 n,k.num≤9223372036854775807):∀t∈C1 n,FT t:=by
 have ho:=Ee hp;intro t ht;have a0:FT (sg [58]):=.sign Aef;have:n.kind=1∨n.kind=2∨n.kind=3∨n.kind=4∨n.kind=5∨n.kind=6:=Aeb
 rcases this with h | h | h | h | h | h<;>simp only[C1,F9,h,if_true,if_false,Int.reduceEq,Ab0,AbH,or_false,Abr,decide_eq_true_eq] at ht ho hn
 ·subst ht;exact .num ho (hn _ rfl)
 ·subst ht;exact .text ho
 ·subst ht
  split
  ·exact .word Aef AeI
  ·exact .word Aef AeI
 ·subst ht;exact .dead
 ·subst ht;exact .ref ho
 ·rcases ht with rfl | rfl | rfl
  ·exact .ref ho.1
  ·exact a0
  ·exact .ref ho.2.1
theorem K0{x:List UInt8}(h:C2 x=true):FT ⟨3,x,0,A4,0⟩:=by
 simp only[C2,Abr,AcO] at h;exact .word h.1.1.1 h.1.1.2
theorem Tr.can:∀{b:Bool} (t:Tr b),t.Fit→t.Num→∀k∈t.toks,FT k
 | _,.leaf n,hf,hn,k,hk=>Yb hf.1 hf.2.1 hf.2.2.2 hn k hk
 | _,.neg a,hf,hn,k,hk=>by
  have ha:=can a hf (λu hu=>hn u Aev);simp only[Tr.toks,Ab0] at hk;rcases hk with rfl | hk
  ·exact .sign Aef
  ·rcases F6 hk with hk | rfl | rfl
   ·exact ha k hk
   ·exact .sign Aef
   ·exact .sign Aef
 | _,.two o a b,hf,hn,k,hk=>by
  have ha:=can a hf.2.2.1 (λu hu=>hn u Aer);have hb:=can b hf.2.2.2 (λu hu=>hn u Aeq);simp only[Tr.toks,Ab1,Ab0] at hk;rcases hk with hk | rfl | hk
  ·rcases F6 hk with hk | rfl | rfl
   ·exact ha k hk
   ·exact .sign Aef
   ·exact .sign Aef
  ·exact .sign (Jq hf.1 hf.2.1)
  ·rcases F6 hk with hk | rfl | rfl
   ·exact hb k hk
   ·exact .sign Aef
   ·exact .sign Aef
 | _,.call x .nil,hf,hn,k,hk=>by
  simp only[Tr.toks,Ab0,AbH,or_false] at hk;rcases hk with rfl | rfl | rfl
  ·exact K0 hf.1
  ·exact .sign Aef
  ·exact .sign Aef
 | _,.call x (.snoc rs a),hf,hn,k,hk=>by
  have hr:=can rs hf.2.1 (λu hu=>hn u Aek);have ha:=can a hf.2.2 (λu hu=>hn u Aek);simp only[Tr.toks,Ab0,Ab1,AbH,or_false] at hk;rcases hk with rfl | rfl | hk | hk | rfl
  ·exact K0 hf.1
  ·exact .sign Aef
  ·exact hr k hk
  ·exact ha k hk
  ·exact .sign Aef
 | _,.nil,_,_,k,hk=>by cases hk
 | _,.snoc rs a,hf,hn,k,hk=>by
  have hr:=can rs hf.1 (λu hu=>hn u Aek);have ha:=can a hf.2 (λu hu=>hn u Aek);simp only[Tr.toks,Ab1,Ab0,AbH,or_false] at hk;rcases hk with hk | hk | rfl
  ·exact hr k hk
  ·exact ha k hk
  ·exact .sign Aef
def CK(l:List As):Prop:=l.flatMap BZ≠[]∧Ab (l.flatMap BZ) 0≠61∧Ab (l.flatMap BZ) 0≠62
theorem CK.app{l:List As}(h:CK l)(m:List As):CK (l++m):=by
 unfold CK at h ⊢;rw[Acb,EF h.1];exact⟨by simp[h.1],h.2⟩
theorem CK.cons{t:As}(h:BZ t≠[])(h1:Ab (BZ t) 0≠61)(h2:Ab (BZ t) 0≠62)(m:List As):CK (t::m):=by
 unfold CK;rw[AbV,EF h];exact⟨by simp[h],h1,h2⟩
theorem CK.brk{l:List As}(h:CK l)(b:Bool):CK (Go.Proofs.YtcjjcnecopnpcaaGreatDoor.brk b l):=by
 unfold Go.Proofs.YtcjjcnecopnpcaaGreatDoor.brk
 split
 ·exact CK.cons (by simp[Dw]) (by rw[Dw];decide) (by rw[Dw];decide) _
 ·exact h
theorem MW{t:As}(h:FT t)(hk:t.kind≠5)(m:List As):CK (t::m):=by
 have h0:=(LO h).1
 cases h with
 | @num z a0 h1=>
  refine CK.cons h0 ?_ ?_ m<;>
  ·show Ab (Lib.itoa z) 0≠_;rw[GR a0];have:=(Nb z.toNat).1;simp only[Ar,Abr,decide_eq_true_eq] at this
   omega
 | text hp=>exact CK.cons h0 (by show(34:Int)≠61;decide) (by show(34:Int)≠62;decide) m
 | word hf ho=>
  have:=KR (M4 (Nk hf).2.2.1)
  exact CK.cons h0 this.2.2.2.2.1 this.2.2.2.2.2 m
 | ref hm=>
  have:=KR (Ob hm).2
  exact CK.cons h0 this.2.2.2.2.1 this.2.2.2.2.2 m
 | sign hs=>exact absurd rfl hk
 | dead=>exact CK.cons h0 Aef Aef m
theorem GS{n:Aj}(h0:1≤n.kind)(h1:n.kind≤6):∃t m,C1 n=t::m∧t.kind≠5∧(m=[]∨∃u,m=[sg [58],u]∧u.kind=4∧t.kind=4):=by
 have:n.kind=1∨n.kind=2∨n.kind=3∨n.kind=4∨n.kind=5∨n.kind=6:=Aeb
 rcases this with h | h | h | h | h | h<;>simp only[C1,h,if_true,if_false,Int.reduceEq]
 ·exact⟨_,_,rfl,by simp,.inl rfl⟩
 ·exact⟨_,_,rfl,by simp,.inl rfl⟩
 ·exact⟨_,_,rfl,by simp,.inl rfl⟩
 ·exact⟨_,_,rfl,by simp,.inl rfl⟩
 ·exact⟨_,_,rfl,by simp,.inl rfl⟩
 ·exact⟨_,_,rfl,by simp,.inr ⟨_,rfl,rfl,rfl⟩⟩
theorem Tr.head:∀(t:Tr false),t.Fit→t.Num→CK t.toks
 | .leaf n,hf,hn=>by
  obtain⟨t,m,e,hk,_⟩:=GS hf.1 hf.2.1;have hc:=(Tr.leaf n).can hf hn t (by show t∈C1 n;rw[e];simp);show CK (C1 n);rw[e]
  exact MW hc hk m
 | .neg a,_,_=>CK.cons (by simp[Dw]) (by rw[Dw];decide) (by rw[Dw];decide) _
 | .two o a b,hf,hn=>by
  have ha:=head a hf.2.2.1 (λu hu=>hn u Aer)
  exact(ha.brk _).app _
 | .call x .nil,hf,_=>MW (K0 hf.1) Aej _
 | .call x (.snoc rs a),hf,_=>MW (K0 hf.1) Aej _
def Vy(R:List UInt8):Prop:=Ar (Ab R 0)=false∧Ab R 0≠34∧DM (Ab R 0)=false
theorem HK{s:List UInt8}(h:s∈Bf)(B:List As):Vy ((sg s::B).flatMap BZ):=by
 obtain⟨a0,a1,a2,a3,a4,a5,a6⟩:=KD s h;rw[AbV,Dw];unfold Vy;rw[EF a0];exact⟨a1,a2,a6⟩
theorem Hm{t:As}(hk:t.kind≠5){R:List UInt8}(h:Vy R):NK t R:=⟨λ_=>h.1,λ_=>h.2.1,λ_=>h.2.2,λe=>absurd e hk⟩
theorem FC{s R:List UInt8}(h1:s≠[60])(h2:s≠[62]):NK (sg s) R:=⟨by simp[sg],by simp[sg],by simp[sg],λ_ e=>by rcases e with e | e<;>contradiction⟩
theorem VR{s:List UInt8}{B:List As}(h:CK B):NK (sg s) (B.flatMap BZ):=⟨by simp[sg],by simp[sg],by simp[sg],λ_ _=>h.2⟩
theorem Nx{l:List As}(hl:∀B:List As,Vy (B.flatMap BZ)→PL B→PL (l++B))(b:Bool):∀B:List As,Vy (B.flatMap BZ)→PL B→PL (brk b l++B):=by
 intro B hs hB;unfold brk
 split
 ·simp only[Ack,Abn,AbN];exact⟨FC Aef Aef,hl _ (HK Aef B) ⟨FC Aef Aef,hB⟩⟩
 ·exact hl B hs hB
theorem Tr.link:∀{b:Bool} (t:Tr b),t.Fit→t.Num→∀B:List As,(b=true∨Vy (B.flatMap BZ))→PL B→PL (t.toks++B)
 | _,.leaf n,hf,hn,B,hs,hB=>by
  have hs:=hs.resolve_left Aej;obtain⟨t,m,e,hk,hm⟩:=GS hf.1 hf.2.1;show PL (C1 n++B);rw[e];rcases hm with rfl | ⟨u,rfl,hu,_⟩
  ·exact⟨Hm hk hs,hB⟩
  ·exact⟨Hm hk (HK Aef _),FC Aef Aef,Hm Aeb hs,hB⟩
 | _,.neg a,hf,hn,B,hs,hB=>by
  have hs:=hs.resolve_left Aej;have ha:=link a hf (λu hu=>hn u Aev)
  exact⟨FC Aef Aef,Nx (λB h1 h2=>ha B (.inr h1) h2) _ B hs hB⟩
 | _,.two o a b,hf,hn,B,hs,hB=>by
  have hs:=hs.resolve_left Aej;have hna:a.Num:=λu hu=>hn u Aer;have hnb:b.Num:=λu hu=>hn u Aeq;have ha:=link a hf.2.2.1 hna;have hb:=link b hf.2.2.2 hnb;have hm:=Jq hf.1 hf.2.1;simp only[Tr.toks,Abn,Ack]
  exact Nx (λB h1 h2=>ha B (.inr h1) h2) _ _ (HK hm _) ⟨VR (((b.head hf.2.2.2 hnb).brk _).app _),Nx (λB h1 h2=>hb B (.inr h1) h2) _ B hs hB⟩
 | _,.call x .nil,hf,hn,B,hs,hB=>⟨Hm Aej (HK Aef _),FC Aef Aef,FC Aef Aef,hB⟩
 | _,.call x (.snoc rs a),hf,hn,B,hs,hB=>by
  have hr:=link rs hf.2.1 (λu hu=>hn u Aek);have ha:=link a hf.2.2 (λu hu=>hn u Aek);simp only[Tr.toks,Abn,Ack,AbN]
  exact⟨Hm Aej (HK Aef _),FC Aef Aef,hr _ (.inl rfl) (ha _ (.inr (HK Aef _)) ⟨FC Aef Aef,hB⟩)⟩
 | _,.nil,_,_,B,_,hB=>hB
 | _,.snoc rs a,hf,hn,B,_,hB=>by
  have hr:=link rs hf.1 (λu hu=>hn u Aek);have ha:=link a hf.2 (λu hu=>hn u Aek);simp only[Tr.toks,Abn,Ack,AbN];exact hr _ (.inl rfl) (ha _ (.inr (HK Aef _)) ⟨FC Aef Aef,hB⟩)
theorem Tr.lex(t:Tr false)(hf:t.Fit)(hn:t.Num):∃T,Ic t.text=some T∧T.map nA=t.toks++[Ri]:=by
 have:=t.link hf hn [] (.inr ⟨rfl,by decide,rfl⟩) trivial;rw[AbD] at this;exact R5 _ 0 (t.can hf hn) this
def Jk(least r need:Nat):Nat:=if r<least then need+1 else need
def Tr.need:{b:Bool}→Tr b→Nat
 | _,.leaf _=>0
 | _,.neg a=>Jk 5 a.rank a.need+1
 | _,.two k a b=>max (Jk (BT k) a.rank a.need) (Jk (BT k+1) b.rank b.need)
 | _,.call _ ks=>ks.need+1
 | _,.nil=>0
 | _,.snoc ks a=>max ks.need a.need
def RK(n:Nat):DY:=if n<4 then .lev n else if n=4 then .unary else .prim
theorem UG{n:Nat}(h:n<4):below n=RK (n+1):=by
 unfold below RK;by_cases h3:n<3
 ·rw[if_pos h3,if_pos Aeb]
 ·rw[if_neg h3,if_neg Aeb,if_pos Aeb]
def Left(T:List As)(s:Bx):List As:=(T.drop s.at_).map nA
theorem DC{T:List As}{s:Bx}{u:As}{R:List As}(h:Left T s=u::R):(Aa T s).kind=u.kind∧(Aa T s).text=u.text∧(Aa T s).num=u.num∧(Aa T s).ref=u.ref:=by
 unfold Left at h;have:((T.drop s.at_).map nA)[0]?=some u:=by rw[h];rfl
 rw[AbR,AcB,Acu] at this
 cases e:T[s.at_]? with
 | none=>rw[e] at this;cases this
 | some t=>
  rw[e] at this;simp only[AbG,AaZ] at this;have et:Aa T s=t:=by simp[Aa,e]
  rw[et,←this];exact⟨rfl,rfl,rfl,rfl⟩
theorem Bz{T:List As}{s s':Bx}{w R:List As}(h:Left T s=w++R)(hs:s'.at_=s.at_+w.length):Left T s'=R:=by
 unfold Left at h ⊢;rw[hs,←List.drop_drop,List.map_drop,h,AdX]
theorem CZ{T:List As}{s:Bx}{u:As}{R:List As}(h:Left T s=u::R)(x:List UInt8):BH T s x=(decide (u.kind=5)&&decide (u.text=x)):=by
 obtain⟨h1,h2,_⟩:=DC h;rw[BH,h1,h2]
def Abb(n:Nat)(u:As):Prop:=u.kind=5→u.text≠[58]∧∀m,n≤m→m<4→(AA m).findIdx? (λx=>decide (x=u.text))=none
def YX(n:Nat)(R:List As):Prop:=∃u B,R=u::B∧Abb n u
theorem YX.mono{n m:Nat}{R:List As}(h:YX n R)(hm:n≤m):YX m R:=by
 obtain⟨u,B,e,hs⟩:=h;exact⟨u,B,e,λh5=>⟨(hs h5).1,λk hk=>(hs h5).2 k Aeb⟩⟩
theorem Zm(n:Nat):YX n [Ri]:=⟨_,_,rfl,λh=>by cases h⟩
theorem XM(n:Nat)(B:List As):YX n (sg [41]::B):=⟨_,_,rfl,λ_=>⟨by decide,λm _ h4=>by
 have:∀m,m<4→(AA m).findIdx? (λx=>decide (x=[41]))=none:=Aef
 exact this m h4⟩⟩
theorem Aan(n:Nat)(B:List As):YX n (sg [44]::B):=⟨_,_,rfl,λ_=>⟨by decide,λm _ h4=>by
 have:∀m,m<4→(AA m).findIdx? (λx=>decide (x=[44]))=none:=Aef
 exact this m h4⟩⟩
theorem Z4{T:List As}{s:Bx}{R:List As}{n m:Nat}(h:Left T s=R)(hf:YX n R)(hn:n≤m)(h4:m<4):GF T s m=none:=by
 obtain⟨u,B,rfl,hs⟩:=hf;obtain⟨h1,h2,_⟩:=DC h;unfold GF
 split
 ·rename_i h5;rw[h2];exact(hs (by rw[←h1];exact h5)).2 m hn h4
 ·rfl
theorem Aaw:∀o,o<11→K2.getD o []≠[58]∧∃n,n<4∧BT (9+(o:Int))=n+1∧(∃i,(AA n).findIdx? (λx=>decide (x=K2.getD o []))=some i∧(Aw n).getD i 0=9+(o:Int))∧∀m,m<4→n+1≤m→(AA m).findIdx? (λx=>decide (x=K2.getD o []))=none:=by
 intro o ho;have:o=0∨o=1∨o=2∨o=3∨o=4∨o=5∨o=6∨o=7∨o=8∨o=9∨o=10:=Aeb
 rcases this with rfl | rfl | rfl | rfl | rfl | rfl | rfl | rfl | rfl | rfl | rfl
 ·exact⟨by decide,0,by decide,rfl,⟨0,rfl,rfl⟩,by decide⟩
 ·exact⟨by decide,0,by decide,rfl,⟨1,rfl,rfl⟩,by decide⟩
 ·exact⟨by decide,0,by decide,rfl,⟨2,rfl,rfl⟩,by decide⟩
 ·exact⟨by decide,0,by decide,rfl,⟨3,rfl,rfl⟩,by decide⟩
 ·exact⟨by decide,0,by decide,rfl,⟨4,rfl,rfl⟩,by decide⟩
 ·exact⟨by decide,0,by decide,rfl,⟨5,rfl,rfl⟩,by decide⟩
 ·exact⟨by decide,1,by decide,rfl,⟨0,rfl,rfl⟩,by decide⟩
 ·exact⟨by decide,2,by decide,rfl,⟨0,rfl,rfl⟩,by decide⟩
 ·exact⟨by decide,2,by decide,rfl,⟨1,rfl,rfl⟩,by decide⟩
 ·exact⟨by decide,3,by decide,rfl,⟨0,rfl,rfl⟩,by decide⟩
 ·exact⟨by decide,3,by decide,rfl,⟨1,rfl,rfl⟩,by decide⟩
theorem Va{k:Int}(h0:9≤k)(h1:k≤19):F3 k≠[58]∧∃n,n<4∧BT k=n+1∧(∃i,(AA n).findIdx? (λx=>decide (x=F3 k))=some i∧(Aw n).getD i 0=k)∧∀m,m<4→n+1≤m→(AA m).findIdx? (λx=>decide (x=F3 k))=none:=by
 have:=Aaw (k - 9).toNat Aeb;rw[show 9+(((k - 9).toNat:Nat):Int)=k by omega] at this;exact this
def DZ{b:Bool}(t:Tr b)(w:List As)(s:Bx):Bx:=⟨s.at_+w.length,s.out++t.flat s.out.length,s.deep⟩
def plc(t:Tr false)(s:Bx):Nat:=s.out.length+t.cnt - 1
def JS(d:Nat)(t:Tr false)(w:List As)(s:Bx):Ii:=if s.deep+d≤12 then .ok (DZ t w s) (plc t s) else .err 6
def ZN(t:Tr false)(d:Nat)(w:List As)(n:Nat):Prop:=∀(T:List As) (s:Bx) (R:List As) (r:Ii),s.deep≤12→Left T s=w++R→YX (n+1) R→
 (if s.deep+d≤12 then PE T (.loop n (plc t s)) (DZ t w s) r else r=.err 6)→PE T (.lev n) s r
def O5(t:Tr false)(d:Nat)(w:List As)(n:Nat):Prop:=∀(T:List As) (s:Bx) (R:List As),s.deep≤12→Left T s=w++R→YX n R→PE T (RK n) s (JS d t w s)
theorem ZN.m{t:Tr false}{d:Nat}{w:List As}{n:Nat}(h:ZN t d w n)(hn:n<4):O5 t d w n:=by
 intro T s R hs hl hf;have e:RK n=.lev n:=by rw[RK,if_pos hn]
 rw[e];refine h T s R _ hs hl (hf.mono Aeb) ?_;unfold JS
 split
 ·exact .loop_end (Z4 (Bz hl rfl) hf (Ab2 n) hn)
 ·rfl
theorem O5.k{t:Tr false}{d:Nat}{w:List As}{n:Nat}(h:O5 t d w (n+1))(hn:n<4):ZN t d w n:=by
 intro T s R r hs hl hf hr;have hp:=h T s R hs hl hf;rw[←UG hn] at hp;unfold JS at hp
 split at hp
 ·rename_i hd;rw[if_pos hd] at hr;exact .lev_ok hp hr
 ·rename_i hd;rw[if_neg hd] at hr;subst hr;exact .lev_err hp
theorem O5.down{t:Tr false}{d:Nat}{w:List As}(h:O5 t d w 5)(hw:∃u v,w=u::v∧¬(u.kind=5∧u.text=[45])):∀k n,n+k=5→O5 t d w n:=by
 have hu:O5 t d w 4:=by
  intro T s R hs hl hf;obtain⟨u,v,rfl,hv⟩:=hw;have hp:=h T s R hs hl (hf.mono Aeb);refine .un_prim ?_ hp;rw[CZ hl];by_cases h5:u.kind=5
  ·have:¬u.text=[45]:=λe=>hv ⟨h5,e⟩;simp[this]
  ·simp[h5]
 intro k
 induction k with
 | zero=>intro n hn;rw[show n=5 by omega];exact h
 | succ k ih=>
  intro n hn;by_cases h4:n=4
  ·rw[h4];exact hu
  ·exact(O5.k (ih (n+1) Aeb) Aeb).m Aeb
theorem UI{t:Tr false}(h:O5 t t.need t.toks 0):O5 t (t.need+1) (sg [40]::(t.toks++[sg [41]])) 5:=by
 intro T s R hs hl hf;have hl:Left T s=sg [40]::(t.toks++(sg [41]::R)):=by rw[hl];simp
 have hi:BH T s [40]=true:=by rw[CZ hl];rfl
 show PE T .prim s _;by_cases hd:s.deep<12
 ·have a0:Left T (Ax (Al s))=t.toks++(sg [41]::R):=Bz (w:=[sg [40]]) hl rfl;have hp:=h T (Ax (Al s)) (sg [41]::R) Aey a0 (XM 0 R);unfold JS at hp ⊢;have a1:(Ax (Al s)).deep=s.deep+1:=rfl;rw[a1] at hp;by_cases hh:s.deep+1+t.need≤12
  ·rw[if_pos hh] at hp;rw[if_pos Aeb];have a2:Left T (DZ t t.toks (Ax (Al s)))=sg [41]::R:=Bz a0 rfl;have a3:BH T (DZ t t.toks (Ax (Al s))) [41]=true:=by rw[CZ a2];rfl
   have:=PE.pr_ok hi hd hp a3;have e:B3 (Al (DZ t t.toks (Ax (Al s))))=DZ t (sg [40]::(t.toks++[sg [41]])) s:=by
    simp only[B3,Al,DZ,Ax,Bx.mk.injEq,Abe,Aa9,Ab3];exact⟨by omega,trivial,by omega⟩
   rw[e] at this;exact this
  ·rw[if_neg hh] at hp;rw[if_neg Aeb];exact .pr_err hi hd hp
 ·unfold JS;rw[if_neg Aeb];exact .pr_deep hi Aeb
theorem Vb{t:Tr false}(h0:O5 t t.need t.toks 0)(hm:∀n,n+1≤t.rank→O5 t t.need t.toks n){n:Nat}(hn:n≤5):O5 t (Jk (n+1) t.rank t.need) (brk (decide (t.rank<n+1)) t.toks) n:=by
 unfold Jk brk;by_cases hr:t.rank<n+1
 ·rw[if_pos hr,if_pos Afp];exact(UI h0).down ⟨_,_,rfl,by rintro⟨_,e⟩;cases e⟩ (5 - n) n Aeb
 ·rw[if_neg hr,if_neg Afp];exact hm n Aeb
theorem Yv{t:Tr false}(h0:O5 t t.need t.toks 0)(hk:∀n,n<4→n+1≤t.rank→ZN t t.need t.toks n){n:Nat}(hn:n<4):ZN t (Jk (n+1) t.rank t.need) (brk (decide (t.rank<n+1)) t.toks) n:=by
 unfold Jk brk;by_cases hr:t.rank<n+1
 ·rw[if_pos hr,if_pos Afp];exact((UI h0).down ⟨_,_,rfl,by rintro⟨_,e⟩;cases e⟩ (5 - (n+1)) (n+1) Aeb).k hn
 ·rw[if_neg hr,if_neg Afp];exact hk n hn Aeb
theorem Y8{k:Int}(h0:9≤k)(h1:k≤19):1≤BT k∧BT k≤4:=by
 obtain⟨_,n,hn,e,_⟩:=Va h0 h1;omega
theorem Tr.rank_le:∀(t:Tr false),t.Fit→1≤t.rank∧t.rank≤6
 | .leaf _,_=>by simp[Tr.rank]
 | .neg _,_=>by simp[Tr.rank]
 | .two k _ _,h=>by have:=Y8 h.1 h.2.1;simp only[Tr.rank];omega
 | .call _ _,_=>by simp[Tr.rank]
theorem Zs{n:Aj}(h0:1≤n.kind)(h1:n.kind≤6)(hk:n.kids=[])(hp:Au n=true):O5 (.leaf n) 0 (C1 n) 5:=by
 intro T s R hs hl hf;show PE T .prim s _;unfold JS;rw[if_pos Aeb];have ho:=Ee hp;have a2:plc (.leaf n) s=s.out.length:=by simp[plc,Tr.cnt]
 rw[a2];have hb:=hp;simp only[Au,Abr,decide_eq_true_eq] at hb;have a0:∀w:List As,DZ (.leaf n) w s=Bt ⟨s.at_+w.length,s.out,s.deep⟩ n:=λw=>by simp[DZ,Bt,Tr.flat]
 rw[a0];have:n.kind=1∨n.kind=2∨n.kind=3∨n.kind=4∨n.kind=5∨n.kind=6:=Aeb
 rcases this with h | h | h | h | h | h<;>simp only[C1,F9,A7,h,if_true,if_false,Int.reduceEq,Abr,decide_eq_true_eq,Aci,true_and,and_true,Ack,AbN] at hl ho hb ⊢
 ·obtain⟨t1,t2,t3,t4⟩:=DC hl;have e:n={kind:=1,num:=(Aa T s).num}:=by cases n;simp_all
  rw[e];exact .pr_num t1
 ·obtain⟨t1,t2,t3,t4⟩:=DC hl;have e:n={kind:=2,text:=(Aa T s).text}:=by cases n;simp_all
  rw[e];exact .pr_text t1
 ·obtain⟨t1,t2,t3,t4⟩:=DC hl;rcases ho with ho | ho
  ·rw[if_neg Aeb] at t2;have e:n={kind:=3}:=by cases n;simp_all
   rw[e];exact .pr_false t1 t2
  ·rw[if_pos ho] at t2;have e:n={kind:=3,num:=1}:=by cases n;simp_all
   rw[e];exact .pr_true t1 t2
 ·obtain⟨t1,t2,t3,t4⟩:=DC hl;have e:n={kind:=4}:=by cases n;simp_all
  rw[e];exact .pr_dead t1
 ·obtain⟨t1,t2,t3,t4⟩:=DC hl;have e:n={kind:=5,ref:=(Aa T s).ref}:=by cases n;simp_all
  rw[e];refine .pr_ref t1 ?_;obtain⟨u,B,rfl,hu⟩:=hf;have a1:Left T (Al s)=u::B:=Bz (w:=[_]) hl rfl;rw[CZ a1];by_cases h5:u.kind=5
  ·simp[(hu h5).1]
  ·simp[h5]
 ·obtain⟨t1,t2,t3,t4⟩:=DC hl;have a1:Left T (Al s)=sg [58]::⟨4,[],0,n.to,0⟩::R:=Bz (w:=[_]) hl rfl;have a3:Left T (Al (Al s))=⟨4,[],0,n.to,0⟩::R:=Bz (w:=[_]) a1 rfl;obtain⟨q1,q2,q3,q4⟩:=DC a3;have e:n={kind:=6,ref:=(Aa T s).ref,to:=(Aa T (Al (Al s))).ref}:=by cases n;simp_all
  have hr:Bo (Aa T s).ref (Aa T (Al (Al s))).ref=true:=by rw[t4,q4];exact ho.2.2
  have hi:BH T (Al s) [58]=true:=by rw[CZ a1];rfl
  rw[e];exact .pr_range t1 hi q1 hr
def GoR(ks:Tr true):Prop:=∀(T:List As) (s:Bx) (R:List As) (x:List UInt8) (k0:List Int) (r:Ii),s.deep≤12→Left T s=ks.toks++R→
 (if s.deep+ks.need≤12 then PE T (.args x (k0++ks.kids s.out.length)) (DZ ks ks.toks s) r else r=.err 6)→PE T (.args x k0) s r
def ZO:{b:Bool}→Tr b→Prop
 | false,t=>(∀n,n+1≤t.rank→O5 t t.need t.toks n)∧∀n,n<4→n+1≤t.rank→ZN t t.need t.toks n
 | true,ks=>GoR ks
theorem Mg{x:List UInt8}(h:C2 x=true):x≠Dc∧x≠CL:=by
 simp only[C2,Abr,AcO,decide_eq_false_iff_not] at h;exact⟨h.1.2,h.2⟩
theorem TK{t:Tr false}(h5:O5 t t.need t.toks 5)(hw:∃u v,t.toks=u::v∧¬(u.kind=5∧u.text=[45]))(hr:t.rank=6):ZO t:=by
 have hd:=h5.down hw;refine⟨λn hn=>hd (5 - n) n Aeb,λn hn _=>(hd (5 - (n+1)) (n+1) Aeb).k hn⟩
theorem UP{t:Tr false}{m:Nat}(hr:t.rank=m+1)(hm4:m≤4)(h:O5 t t.need t.toks m)(hk:m<4→ZN t t.need t.toks m):ZO t:=by
 have key:∀k n,n+k=m→O5 t t.need t.toks n:=by
  intro k
  induction k with
  | zero=>intro n hn;rw[show n=m by omega];exact h
  | succ k ih=>intro n hn;exact(O5.k (ih (n+1) Aeb) Aeb).m Aeb
 refine⟨λn hn=>key (m - n) n Aeb,λn hn h1=>?_⟩;by_cases e:n=m
 ·subst e;exact hk hn
 ·exact(key (m - (n+1)) (n+1) Aeb).k hn
def Kc(l:List As):Prop:=∃u v,l=u::v∧¬(u.kind=5∧u.text=[41])
theorem Kc.app{l:List As}(h:Kc l)(m:List As):Kc (l++m):=by
 obtain⟨u,v,rfl,hu⟩:=h;exact⟨u,v++m,rfl,hu⟩
theorem Kc.brk{l:List As}(h:Kc l)(b:Bool):Kc (Go.Proofs.YtcjjcnecopnpcaaGreatDoor.brk b l):=by
 unfold Go.Proofs.YtcjjcnecopnpcaaGreatDoor.brk
 split
 ·exact⟨_,_,rfl,by rintro⟨_,e⟩;cases e⟩
 ·exact h
theorem Tr.first:∀{b:Bool} (t:Tr b),t.Fit→(b=true∧t.toks=[])∨Kc t.toks
 | _,.leaf n,hf=>by
  obtain⟨u,m,e,hk,_⟩:=GS hf.1 hf.2.1
  exact .inr ⟨u,m,e,λh=>hk h.1⟩
 | _,.neg a,_=>.inr ⟨_,_,rfl,by rintro⟨_,e⟩;cases e⟩
 | _,.two k a b,hf=>by
  rcases first a hf.2.2.1 with h | h
  ·cases h.1
  ·exact .inr ((h.brk _).app _)
 | _,.call x .nil,_=>.inr ⟨_,_,rfl,by rintro⟨e,_⟩;cases e⟩
 | _,.call x (.snoc rs a),_=>.inr ⟨_,_,rfl,by rintro⟨e,_⟩;cases e⟩
 | _,.nil,_=>.inl ⟨rfl,rfl⟩
 | _,.snoc rs a,hf=>by
  rcases first a hf.2 with h | h
  ·cases h.1
  ·rcases first rs hf.1 with h2 | h2
   ·refine .inr ?_;simp only[Tr.toks,h2.2,AbN];exact h.app _
   ·exact .inr (h2.app _)
theorem VL{T:List As}{s:Bx}{l:List As}(h:Kc l)(hl:Left T s=l):BH T s [41]=false:=by
 obtain⟨u,v,rfl,hu⟩:=h;rw[CZ hl];by_cases h5:u.kind=5
 ·have:¬u.text=[41]:=λe=>hu ⟨h5,e⟩;simp[this]
 ·simp[h5]
theorem Tr.go:∀{b:Bool} (t:Tr b),t.Fit→ZO t
 | _,.leaf n,hf=>by
  obtain⟨u,m,e,hk,_⟩:=GS hf.1 hf.2.1
  exact TK (Zs hf.1 hf.2.1 hf.2.2.1 hf.2.2.2) ⟨u,m,e,λh=>hk h.1⟩ rfl
 | _,.neg a,hf=>by
  have ga:ZO a:=go a hf;have hr:=Tr.rank_le a hf;have hop:O5 a (Jk 5 a.rank a.need) (brk (decide (a.rank<5)) a.toks) 4:=Vb (ga.1 0 Aeb) ga.1 (n:=4) Aeb;refine UP (m:=4) rfl (Ab2 _) ?_ (λh=>absurd h Aeb);intro T s R hs hl hfol;have hl:Left T s=sg [45]::(brk (decide (a.rank<5)) a.toks++R):=hl;have hi:BH T s [45]=true:=by rw[CZ hl];rfl
  show PE T .unary s _;have a0:(Tr.neg a).need=Jk 5 a.rank a.need+1:=rfl;by_cases hd:s.deep<12
  ·have a1:Left T (Ax (Al s))=brk (decide (a.rank<5)) a.toks++R:=Bz (w:=[_]) hl rfl;have hp:=hop T (Ax (Al s)) R Aey a1 hfol;unfold JS at hp ⊢;have a6:(Ax (Al s)).deep=s.deep+1:=rfl;rw[a6] at hp;rw[a0];by_cases hh:s.deep+1+Jk 5 a.rank a.need≤12
   ·rw[if_pos hh] at hp;rw[if_pos Aeb];have:=PE.un_ok hi hd hp;have e:Bt (B3 (DZ a (brk (decide (a.rank<5)) a.toks) (Ax (Al s)))) {kind:=8,kids:=[((plc a (Ax (Al s)):Nat):Int)]}=DZ (.neg a) (Tr.neg a).toks s:=by
     simp only[Bt,B3,DZ,Ax,Al,Tr.flat,Tr.toks,Bx.mk.injEq,Abe,Abn,plc];exact⟨by omega,trivial,by omega⟩
    have e2:(DZ a (brk (decide (a.rank<5)) a.toks) (Ax (Al s))).out.length=plc (.neg a) s:=by
     simp only[DZ,Ax,Al,plc,Tr.cnt,Aa9,Tr.flat_len];omega
    rw[e,e2] at this;exact this
   ·rw[if_neg hh] at hp;rw[if_neg Aeb];exact .un_err hi hd hp
  ·unfold JS;rw[if_neg Aeb]
   exact .un_deep hi Aeb
 | _,.two k a b,hf=>by
  have ga:ZO a:=go a hf.2.2.1;have gb:ZO b:=go b hf.2.2.2;have ra:=Tr.rank_le a hf.2.2.1;have rb:=Tr.rank_le b hf.2.2.2;obtain⟨aj,n,hn,ac,⟨i,hi,ak⟩,al⟩:=Va hf.1 hf.2.1;have hA:=Yv (ga.1 0 Aeb) ga.2 hn;have hB:=Vb (gb.1 0 Aeb) gb.1 (n:=n+1) Aeb;have a0:(Tr.two k a b).need=max (Jk (n+1) a.rank a.need) (Jk (n+1+1) b.rank b.need):=by simp only[Tr.need,ac]
  have a2:(Tr.two k a b).toks=brk (decide (a.rank<n+1)) a.toks++sg (F3 k)::brk (decide (b.rank<n+1+1)) b.toks:=by simp only[Tr.toks,ac]
  have hK:ZN (.two k a b) (Tr.two k a b).need (Tr.two k a b).toks n:=by
   intro T s R r hs hl hfol hr;rw[a2,Abn,Ack] at hl;have am:YX (n+1) (sg (F3 k)::(brk (decide (b.rank<n+1+1)) b.toks++R)):=⟨_,_,rfl,λ_=>⟨aj,λm h1 h2=>al m h2 h1⟩⟩;refine hA T s _ r hs hl am ?_
   split
   ·rename_i a3;have a1:Left T (DZ a (brk (decide (a.rank<n+1)) a.toks) s)=sg (F3 k)::(brk (decide (b.rank<n+1+1)) b.toks++R):=Bz hl rfl;obtain⟨t1,t2,_⟩:=DC a1;have hop:GF T (DZ a (brk (decide (a.rank<n+1)) a.toks) s) n=some i:=by
     unfold GF;rw[if_pos (show _=(5:Int) from t1),t2];exact hi
    have a4:Left T (Al (DZ a (brk (decide (a.rank<n+1)) a.toks) s))=brk (decide (b.rank<n+1+1)) b.toks++R:=Bz (w:=[_]) a1 rfl;have hp:=hB T (Al (DZ a (brk (decide (a.rank<n+1)) a.toks) s)) R hs a4 hfol;rw[←UG hn] at hp;unfold JS at hp;have a6:(Al (DZ a (brk (decide (a.rank<n+1)) a.toks) s)).deep=s.deep:=rfl;rw[a6] at hp;by_cases ai:s.deep+Jk (n+1+1) b.rank b.need≤12
    ·rw[if_pos ai] at hp;rw[if_pos Aff] at hr;refine .loop_go hop hp ?_;rw[ak];have e:Bt (DZ b (brk (decide (b.rank<n+1+1)) b.toks) (Al (DZ a (brk (decide (a.rank<n+1)) a.toks) s))) {kind:=k,kids:=[((plc a s:Nat):Int),((plc b (Al (DZ a (brk (decide (a.rank<n+1)) a.toks) s)):Nat):Int)]}=DZ (.two k a b) (Tr.two k a b).toks s:=by
      rw[a2];simp only[Bt,DZ,Al,Tr.flat,Bx.mk.injEq,Aa9,Abe,Abn,plc,Tr.flat_len];exact⟨by omega,trivial,trivial⟩
     have e2:(DZ b (brk (decide (b.rank<n+1+1)) b.toks) (Al (DZ a (brk (decide (a.rank<n+1)) a.toks) s))).out.length=plc (.two k a b) s:=by
      simp only[DZ,Al,plc,Tr.cnt,Aa9,Tr.flat_len];omega
     rw[e,e2];exact hr
    ·rw[if_neg ai] at hp;rw[if_neg Aff] at hr;subst hr;exact .loop_err hop hp
   ·rename_i a3;rw[if_neg Aff] at hr;exact hr
  exact UP (m:=n) (by simp only[Tr.rank,ac]) Aeb (hK.m hn) (λ_=>hK)
 | _,.call x .nil,hf=>by
  obtain⟨a7,a8⟩:=Mg hf.1;refine TK ?_ ⟨_,_,rfl,by rintro⟨e,_⟩;cases e⟩ rfl;intro T s R hs hl hfol;have hl:Left T s=⟨3,x,0,A4,0⟩::sg [40]::sg [41]::R:=hl;obtain⟨t1,t2,_⟩:=DC hl;have a1:Left T (Al s)=sg [40]::sg [41]::R:=Bz (w:=[_]) hl rfl;have a4:Left T (Ax (Al (Al s)))=sg [41]::R:=Bz (w:=[_]) a1 rfl;have a9:BH T (Al s) [40]=true:=by rw[CZ a1];rfl
  have ad:BH T (Ax (Al (Al s))) [41]=true:=by rw[CZ a4];rfl
  show PE T .prim s _;unfold JS;by_cases hd:s.deep<12
  ·rw[if_pos Aey];have:=PE.pr_call0 t1 (by rw[t2];exact a7) (by rw[t2];exact a8) a9 hd ad;rw[t2] at this;exact this
  ·rw[if_neg (by show ¬s.deep+1≤12;omega)]
   exact .pr_calldeep t1 (by rw[t2];exact a7) (by rw[t2];exact a8) a9 Aeb
 | _,.call x (.snoc rs a),hf=>by
  obtain⟨a7,a8⟩:=Mg hf.1;have gr:GoR rs:=go rs hf.2.1;have ga:ZO a:=go a hf.2.2;have ra:=Tr.rank_le a hf.2.2;have a5:Kc (rs.toks++(a.toks++[sg [41]])):=by
   rcases Tr.first a hf.2.2 with h | h
   ·cases h.1
   ·rcases Tr.first rs hf.2.1 with h2 | h2
    ·rw[h2.2,AbN];exact h.app _
    ·exact h2.app _
  refine TK ?_ ⟨_,_,rfl,by rintro⟨e,_⟩;cases e⟩ rfl;intro T s R hs hl hfol;have hl:Left T s=⟨3,x,0,A4,0⟩::sg [40]::(rs.toks++(a.toks++(sg [41]::R))):=by rw[hl];simp[Tr.toks]
  obtain⟨t1,t2,_⟩:=DC hl;have a1:Left T (Al s)=sg [40]::(rs.toks++(a.toks++(sg [41]::R))):=Bz (w:=[_]) hl rfl;have a4:Left T (Ax (Al (Al s)))=rs.toks++(a.toks++(sg [41]::R)):=Bz (w:=[_]) a1 rfl;have a9:BH T (Al s) [40]=true:=by rw[CZ a1];rfl
  have ad:BH T (Ax (Al (Al s))) [41]=false:=by
   refine VL (a5.app R) ?_;rw[a4];simp
  have a0:(Tr.call x (.snoc rs a)).need=max rs.need a.need+1:=rfl;show PE T .prim s _;unfold JS;by_cases hd:s.deep<12
  ·refine .pr_call t1 (by rw[t2];exact a7) (by rw[t2];exact a8) a9 hd ad ?_;rw[t2];refine gr T (Ax (Al (Al s))) _ x [] _ Aey a4 ?_;have a6:(Ax (Al (Al s))).deep=s.deep+1:=rfl;rw[a6,a0]
   split
   ·rename_i ae;have aa:Left T (DZ rs rs.toks (Ax (Al (Al s))))=a.toks++(sg [41]::R):=Bz a4 rfl;have hp:=ga.1 0 Aeb T (DZ rs rs.toks (Ax (Al (Al s)))) _ Aey aa (XM 0 R);unfold JS at hp;have af:(DZ rs rs.toks (Ax (Al (Al s)))).deep=s.deep+1:=rfl;rw[af] at hp;by_cases a3:s.deep+1+a.need≤12
    ·rw[if_pos a3] at hp;rw[if_pos Aeb];have ab:Left T (DZ a a.toks (DZ rs rs.toks (Ax (Al (Al s)))))=sg [41]::R:=Bz aa rfl;have ag:BH T (DZ a a.toks (DZ rs rs.toks (Ax (Al (Al s))))) [44]=false:=by rw[CZ ab];rfl
     have ah:BH T (DZ a a.toks (DZ rs rs.toks (Ax (Al (Al s))))) [41]=true:=by rw[CZ ab];rfl
     have:=PE.ar_end (x:=x) (ks:=[]++rs.kids (Ax (Al (Al s))).out.length) hp ag ah;have e:Bt (B3 (Al (DZ a a.toks (DZ rs rs.toks (Ax (Al (Al s))))))) {kind:=7,text:=x,kids:=[]++rs.kids (Ax (Al (Al s))).out.length++[((plc a (DZ rs rs.toks (Ax (Al (Al s)))):Nat):Int)]}=DZ (.call x (.snoc rs a)) (Tr.call x (.snoc rs a)).toks s:=by
      simp only[Bt,B3,DZ,Ax,Al,Tr.flat,Tr.toks,Tr.kids,Bx.mk.injEq,Abe,Aa9,Ab3,Abn,plc,Tr.flat_len,AbN];exact⟨by omega,trivial,by omega⟩
     have e2:(DZ a a.toks (DZ rs rs.toks (Ax (Al (Al s))))).out.length=plc (.call x (.snoc rs a)) s:=by
      simp only[DZ,Ax,Al,plc,Tr.cnt,Aa9,Tr.flat_len];omega
     rw[e,e2] at this;exact this
    ·rw[if_neg a3] at hp;rw[if_neg Aeb];exact .ar_err hp
   ·rename_i ae;rw[if_neg Aeb]
  ·rw[if_neg Aeb]
   exact .pr_calldeep t1 (by rw[t2];exact a7) (by rw[t2];exact a8) a9 Aeb
 | _,.nil,_=>by
  intro T s R x k0 r hs hl hr;have e:DZ Tr.nil Tr.nil.toks s=s:=by simp[DZ,Tr.toks,Tr.flat]
  rw[e,if_pos (by show s.deep+0≤12;omega)] at hr
  simpa[Tr.kids] using hr
 | _,.snoc rs a,hf=>by
  have gr:GoR rs:=go rs hf.1;have ga:ZO a:=go a hf.2;have ra:=Tr.rank_le a hf.2;intro T s R x k0 r hs hl hr;have hl:Left T s=rs.toks++(a.toks++(sg [44]::R)):=by rw[hl];simp[Tr.toks]
  have a0:(Tr.snoc rs a).need=max rs.need a.need:=rfl;rw[a0] at hr;refine gr T s _ x k0 r hs hl ?_
  split
  ·rename_i ae;have aa:Left T (DZ rs rs.toks s)=a.toks++(sg [44]::R):=Bz hl rfl;have hp:=ga.1 0 Aeb T (DZ rs rs.toks s) _ hs aa (Aan 0 R);unfold JS at hp;have af:(DZ rs rs.toks s).deep=s.deep:=rfl;rw[af] at hp;by_cases a3:s.deep+a.need≤12
   ·rw[if_pos a3] at hp;rw[if_pos Aeb] at hr;have ab:Left T (DZ a a.toks (DZ rs rs.toks s))=sg [44]::R:=Bz aa rfl;have ag:BH T (DZ a a.toks (DZ rs rs.toks s)) [44]=true:=by rw[CZ ab];rfl
    refine .ar_go hp ag ?_;have e:Al (DZ a a.toks (DZ rs rs.toks s))=DZ (.snoc rs a) (Tr.snoc rs a).toks s:=by
     simp only[DZ,Al,Tr.flat,Tr.toks,Bx.mk.injEq,Abe,Aa9,Ab3,Abn,Tr.flat_len];exact⟨by omega,trivial,trivial⟩
    have e2:k0++rs.kids s.out.length++[((plc a (DZ rs rs.toks s):Nat):Int)]=k0++(Tr.snoc rs a).kids s.out.length:=by
     simp only[DZ,plc,Tr.kids,Aa9,Tr.flat_len,Abn]
    rw[e,e2];exact hr
   ·rw[if_neg a3] at hp;rw[if_neg Aeb] at hr;subst hr;exact .ar_err hp
  ·rename_i ae;rw[if_neg Aeb] at hr;exact hr
theorem Tr.again(t:Tr false)(hf:t.Fit){T:List As}(hT:T.map nA=t.toks++[Ri]):DS T (if t.need≤12 then .ok (t.flat 0) else .error 6):=by
 have hg:=(t.go hf).1 0 (by have:=Tr.rank_le t hf;omega) T ⟨0,[],0⟩ [Ri] Aej hT (Zm 0);have hg:PE T (.lev 0) ⟨0,[],0⟩ (JS t.need t t.toks ⟨0,[],0⟩):=hg;unfold JS at hg;simp only[AbP] at hg;by_cases h:t.need≤12
 ·rw[if_pos h] at hg ⊢;refine⟨_,_,hg,?_,by simp[DZ]⟩;have:Left T (DZ t t.toks ⟨0,[],0⟩)=[Ri]:=Bz (s:=⟨0,[],0⟩) (w:=t.toks) hT rfl;exact(DC this).1
 ·rw[if_neg h] at hg ⊢;exact .inl hg
def W(l:List As):Nat:=(l.flatMap BZ).length
theorem Ki:W []=0:=rfl
theorem Dr(t:As)(l:List As):W (t::l)=(BZ t).length+W l:=by simp[W]
theorem Kh(l m:List As):W (l++m)=W l+W m:=by simp[W]
theorem MP(s:List UInt8):(BZ (sg s)).length=s.length:=rfl
theorem Xv(b:Bool)(l:List As):W (brk b l)=W l+if b then 2 else 0:=by
 cases b
 ·simp[brk]
 ·simp only[brk,if_true,Dr,Kh,Ki,MP,Abe,Ab3];omega
def pw(T:List As)(i:Nat):Nat:=W (T.take i)
theorem Z9(T:List As)(i:Nat):pw T (i+1)=pw T i+(BZ (T.getD i YQ)).length:=by
 unfold pw;rcases AbW i T.length with h | h
 ·rw[AbO,Aav h,Kh,AaA,Aav h];simp[W]
 ·rw[Acq h,Acq Aeb,AaA,AbE h];rfl
theorem Db(T:List As)(s:Bx):pw T (s.at_+1)=pw T s.at_+(BZ (Aa T s)).length:=Z9 T s.at_
theorem AaY(T:List As)(i:Nat):pw T i≤W T:=by
 have:=Kh (T.take i) (T.drop i);rw[Ad0] at this;unfold pw;omega
theorem I4(t:Tr false)(L:Nat):W (t.opt L)=W t.toks+if t.rank<L then 2 else 0:=by
 rw[Tr.opt,Xv];by_cases h:t.rank<L<;>simp[h]
theorem Abv{t:As}(h:FT t)(k:t.kind=1):t=⟨1,[],t.num,A4,0⟩∧0≤t.num∧t.num≤9223372036854775807:=by
 cases h<;>simp_all [sg]
theorem Abw{t:As}(h:FT t)(k:t.kind=2):t=⟨2,t.text,0,A4,0⟩∧Mn t.text=true:=by
 cases h<;>simp_all [sg]
theorem Abd{t:As}(h:FT t)(k:t.kind=3):t=⟨3,t.text,0,A4,0⟩∧KL t.text=true∧AV t.text=false:=by
 cases h<;>simp_all [sg]
theorem Aa7{t:As}(h:FT t)(k:t.kind=4):t=⟨4,[],0,t.ref,0⟩∧AZ t.ref=true:=by
 cases h<;>simp_all [sg]
theorem Abx{t:As}(h:FT t)(k:t.kind=6):t=⟨6,[],0,A4,0⟩:=by
 cases h<;>simp_all [sg]
def AaC(T:List As):Prop:=∀t∈T,nA t=Ri∨FT (nA t)
theorem G8{T:List As}(h:AaC T){s:Bx}(hk:(Aa T s).kind≠0):FT (nA (Aa T s)):=by
 rcases AbW s.at_ T.length with hl | hl
 ·have e:Aa T s=T[s.at_]:=by simp[Aa,Aav hl]
  rw[e] at hk ⊢;rcases h _ (AbY hl) with h | h
  ·have:(nA T[s.at_]).kind=0:=by rw[h];rfl
   exact absurd this hk
  ·exact h
 ·have e:Aa T s=YQ:=by simp[Aa,AbE hl]
  rw[e] at hk;exact absurd rfl hk
theorem F7{T:List As}{s:Bx}{x:List UInt8}(h:BH T s x=true):(BZ (Aa T s)).length=x.length:=by
 obtain⟨h1,h2⟩:=Et h;simp[BZ,h1,h2]
theorem Se:∀n,n<4→∀i,i<(AA n).length→9≤(Aw n).getD i 0∧(Aw n).getD i 0≤19∧BT ((Aw n).getD i 0)=n+1∧F3 ((Aw n).getD i 0)=(AA n).getD i []:=by decide
theorem Z5{T:List As}{s:Bx}{n i:Nat}(hn:n<4)(h:GF T s n=some i):9≤(Aw n).getD i 0∧(Aw n).getD i 0≤19∧BT ((Aw n).getD i 0)=n+1∧(BZ (Aa T s)).length=(F3 ((Aw n).getD i 0)).length:=by
 unfold GF at h
 split at h
 ·rename_i h5;obtain⟨hi,hp,_⟩:=AbI.1 h;obtain⟨a1,a2,a3,a4⟩:=Se n hn i hi;refine⟨a1,a2,a3,?_⟩;have ht:(AA n)[i]=(Aa T s).text:=by simpa using hp
  rw[a4,AaA,Aav hi];simp[BZ,h5,ht]
 ·cases h
structure Rt(T:List As)(L:Nat)(s s1:Bx)(b:Nat)(t:Tr false):Prop where
 fit:t.Fit
 num:t.Num
 out:s1.out=s.out++t.flat s.out.length
 plc:b=s.out.length+t.cnt - 1
 deep:s1.deep=s.deep
 need:s.deep+Jk L t.rank t.need≤12
 wid:W (t.opt L)+pw T s.at_≤pw T s1.at_
structure Lt(T:List As)(n:Nat)(s s1:Bx)(b:Nat)(o:List Aj)(ta t:Tr false):Prop where
 fit:t.Fit
 num:t.Num
 out:s1.out=o++t.flat o.length
 plc:b=o.length+t.cnt - 1
 deep:s1.deep=s.deep
 need:s.deep+Jk (n+1) t.rank t.need≤12
 wid:W (t.opt (n+1))+pw T s.at_≤W (ta.opt (n+1))+pw T s1.at_
structure At(T:List As)(s s1:Bx)(b:Nat)(o:List Aj)(x:List UInt8)(rs:Tr true)(r1:Tr true)(a1:Tr false):Prop where
 fit:(Tr.call x (.snoc r1 a1)).Fit
 num:r1.Num∧a1.Num
 out:s1.out=o++(Tr.call x (.snoc r1 a1)).flat o.length
 plc:b=o.length+(Tr.call x (.snoc r1 a1)).cnt - 1
 deep:s1.deep=s.deep - 1
 need:s.deep+(Tr.snoc r1 a1).need≤12
 wid:W r1.toks+W a1.toks+1+pw T s.at_≤W rs.toks+pw T s1.at_
def AaH(T:List As)(m:DY)(s:Bx):Ii→Prop
 | .err _=>True
 | .ok s1 b=>s.deep≤12→match m with
  | .lev n=>n<4→∃t,Rt T (n+1) s s1 b t
  | .unary=>∃t,Rt T 5 s s1 b t
  | .prim=>∃t,Rt T 6 s s1 b t
  | .loop n a=>n<4→∀o (ta:Tr false),ta.Fit→ta.Num→s.out=o++ta.flat o.length→a=o.length+ta.cnt - 1→s.deep+Jk (n+1) ta.rank ta.need≤12→∃t,Lt T n s s1 b o ta t
  | .args x ks=>∀o (rs:Tr true),C2 x=true→rs.Fit→rs.Num→s.out=o++rs.flat o.length→ks=rs.kids o.length→s.deep+rs.need≤12→1≤s.deep→∃r1 a1,At T s s1 b o x rs r1 a1
theorem Yu{L L' r d:Nat}(h:L≤L'):Jk L r d≤Jk L' r d:=by
 unfold Jk
 split<;>split<;>omega
theorem Aay(L r d:Nat):Jk L r d≤d+1:=by
 unfold Jk
 split<;>omega
theorem Qt(L r d:Nat):d≤Jk L r d:=by
 unfold Jk
 split<;>omega
theorem Wu(t:Tr false){L L':Nat}(h:L≤L'):W (t.opt L)≤W (t.opt L'):=by
 rw[I4,I4]
 split<;>split<;>omega
theorem Rt.low{T:List As}{L L':Nat}{s s1:Bx}{b:Nat}{t:Tr false}(h:Rt T L s s1 b t)(hl:L'≤L):Rt T L' s s1 b t:=
 ⟨h.fit,h.num,h.out,h.plc,h.deep,by have:=Yu (r:=t.rank) (d:=t.need) hl;have:=h.need;omega,by have:=Wu t hl;have:=h.wid;omega⟩
theorem NY{T:List As}{n:Nat}(hn:n<4){s s1:Bx}{a:Nat}(h:AaH T (below n) s (.ok s1 a))(hd:s.deep≤12):∃t,Rt T (n+2) s s1 a t:=by
 unfold below at h
 split at h
 ·exact h hd Aeb
 ·have e:n=3:=Aeb
  subst e;exact h hd
theorem Rt.leaf{T:List As}{s s1:Bx}{n:Aj}(k:Int)(hkk:n.kind=k)(h0:1≤k)(h1:k≤6)(hk:n.kids=[])(hp:Au n=true)(hn:∀k∈C1 n,k.num≤9223372036854775807)(hd:s.deep≤12)(ho:s1.out=s.out++[n])(hdd:s1.deep=s.deep)(hw:W (C1 n)+pw T s.at_≤pw T s1.at_):∃t,Rt T 6 s s1 s.out.length t:=by
 refine⟨.leaf n,⟨by omega,by omega,hk,hp⟩,hn,ho,by simp[Tr.cnt],hdd,hd,?_⟩;rw[I4]
 simpa[Tr.rank,Tr.toks] using hw
theorem UX{a:Tr false}(h:a.Num):(Tr.neg a).Num:=λk hk=>by
 simp only[Tr.toks,Ab0] at hk;rcases hk with rfl | hk
 ·decide
 ·rcases F6 hk with hk | rfl | rfl
  ·exact h k hk
  ·decide
  ·decide
theorem UY{o:Int}{a b:Tr false}(h:a.Num)(h':b.Num):(Tr.two o a b).Num:=λk hk=>by
 simp only[Tr.toks,Ab1,Ab0] at hk;rcases hk with hk | rfl | hk
 ·rcases F6 hk with hk | rfl | rfl
  ·exact h k hk
  ·decide
  ·decide
 ·show(0:Int)≤_;decide
 ·rcases F6 hk with hk | rfl | rfl
  ·exact h' k hk
  ·decide
  ·decide
theorem Sc{rs:Tr true}{a:Tr false}(h:rs.Num)(h':a.Num):(Tr.snoc rs a).Num:=λk hk=>by
 simp only[Tr.toks,Ab1,Ab0,AbH,or_false] at hk;rcases hk with hk | hk | rfl
 ·exact h k hk
 ·exact h' k hk
 ·decide
theorem RU{x:List UInt8}{rs:Tr true}{a:Tr false}(h:rs.Num)(h':a.Num):(Tr.call x (.snoc rs a)).Num:=λk hk=>by
 simp only[Tr.toks,Ab0,Ab1,AbH,or_false] at hk;rcases hk with rfl | rfl | hk | hk | rfl
 ·show(0:Int)≤_;decide
 ·decide
 ·exact h k hk
 ·exact h' k hk
 ·decide
theorem PE.trees{T:List As}(hT:AaC T){m:DY}{s:Bx}{r:Ii}(h:PE T m s r):AaH T m s r:=by
 induction h with
 | lev_err _ _=>trivial
 | @lev_ok n s s1 a r _ _ ih1 ih2=>
  cases r with
  | err e=>trivial
  | ok s2 b=>
   intro hd hn;obtain⟨t,h1⟩:=NY hn ih1 hd;have h1:=h1.low (show n+1≤n+2 by omega);obtain⟨u,h2⟩:=ih2 (by rw[h1.deep];exact hd) hn s.out t h1.fit h1.num h1.out h1.plc (by rw[h1.deep];exact h1.need)
   exact⟨u,h2.fit,h2.num,h2.out,h2.plc,h2.deep.trans h1.deep,by rw[←h1.deep];exact h2.need,by have:=h1.wid;have:=h2.wid;omega⟩
 | @loop_end n s a _=>exact λhd hn o ta h1 h2 h3 h4 h5=>⟨ta,h1,h2,h3,h4,rfl,h5,Ab2 _⟩
 | loop_err _ _ _=>trivial
 | @loop_go n s a i s1 b r hi _ _ ih1 ih2=>
  cases r with
  | err e=>trivial
  | ok s2 c=>
   intro hd hn o ta h1 h2 h3 h4 h5;obtain⟨k0,k1,k2,k3⟩:=Z5 hn hi;obtain⟨tb,hb⟩:=NY hn ih1 hd;have ag:s1.out=s.out++tb.flat s.out.length:=hb.out;have a9:s1.deep=s.deep:=hb.deep;have al:s.deep+Jk (n+2) tb.rank tb.need≤12:=hb.need;have ai:b=s.out.length+tb.cnt - 1:=hb.plc;have am:W (tb.opt (n+2))+pw T (s.at_+1)≤pw T s1.at_:=hb.wid;have a5:s.out.length=o.length+ta.cnt:=by rw[h3,Aa9,Tr.flat_len]
   have a6:(Tr.two ((Aw n).getD i 0) ta tb).need=max (Jk (n+1) ta.rank ta.need) (Jk (n+2) tb.rank tb.need):=by simp only[Tr.need,k2]
   have a2:(Tr.two ((Aw n).getD i 0) ta tb).rank=n+1:=k2;have aa:Jk (n+1) (Tr.two ((Aw n).getD i 0) ta tb).rank (Tr.two ((Aw n).getD i 0) ta tb).need=max (Jk (n+1) ta.rank ta.need) (Jk (n+2) tb.rank tb.need):=by
    unfold Jk;rw[a2,if_neg Aeb,a6];rfl
   have hW:W ((Tr.two ((Aw n).getD i 0) ta tb).opt (n+1))=W (ta.opt (n+1))+(F3 ((Aw n).getD i 0)).length+W (tb.opt (n+2)):=by
    have e2:tb.opt (n+2)=brk (decide (tb.rank<n+1+1)) tb.toks:=rfl;have e1:ta.opt (n+1)=brk (decide (ta.rank<n+1)) ta.toks:=rfl;rw[I4,a2,if_neg Aeb,e1,e2];simp only[Tr.toks,Kh,Dr,MP,k2];omega
   have a0:=Db T s;obtain⟨t,h⟩:=ih2 (by show s1.deep≤12;omega) hn o (.two ((Aw n).getD i 0) ta tb) ⟨k0,k1,h1,hb.fit⟩ (UY h2 hb.num) (by
    show s1.out++[_]=_;rw[ag,ai,h3,h4];simp only[Tr.flat,Abn,Aa9,Tr.flat_len]) (by
    show s1.out.length=_;rw[ag,Aa9,Tr.flat_len,a5];simp only[Tr.cnt];omega) (by
    show s1.deep+_≤12;rw[aa,a9];omega)
   have e1:(Bt s1 {kind:=(Aw n).getD i 0,kids:=[(a:Int),(b:Int)]}).deep=s1.deep:=rfl;have e2:(Bt s1 {kind:=(Aw n).getD i 0,kids:=[(a:Int),(b:Int)]}).at_=s1.at_:=rfl;refine⟨t,h.fit,h.num,h.out,h.plc,by rw[h.deep,e1,a9],by have:=h.need;rw[e1,a9] at this;exact this,?_⟩;have:=h.wid;rw[e2,hW] at this
   omega
 | @un_prim s r _ _ ih=>
  cases r with
  | err e=>trivial
  | ok s2 b=>
   intro hd;obtain⟨t,h⟩:=ih hd
   exact⟨t,h.low Aeb⟩
 | un_deep _ _=>trivial
 | un_err _ _ _ _=>trivial
 | @un_ok s s1 a hi hd _ ih=>
  intro _;obtain⟨t,h⟩:=ih Aey;have ho:s1.out=s.out++t.flat s.out.length:=h.out;have a7:s1.deep=s.deep+1:=h.deep;have a8:s.deep+1+Jk 5 t.rank t.need≤12:=h.need;have hp:a=s.out.length+t.cnt - 1:=h.plc;have hw:W (t.opt 5)+pw T (s.at_+1)≤pw T s1.at_:=h.wid;have a0:=Db T s;have hc:=F7 hi;simp only[Abe,Ab3] at hc;refine⟨.neg t,h.fit,UX h.num,?_,?_,?_,?_,?_⟩
  ·show s1.out++[_]=_;rw[ho,hp];simp only[Tr.flat,Abn]
  ·rw[ho,Aa9,Tr.flat_len];simp only[Tr.cnt];omega
  ·show s1.deep - 1=s.deep;omega
  ·have:Jk 5 (Tr.neg t).rank (Tr.neg t).need=Jk 5 t.rank t.need+1:=rfl;rw[this];omega
  ·have:W ((Tr.neg t).opt 5)=1+W (t.opt 5):=by
    rw[I4 (.neg t)];simp only[Tr.rank,Tr.toks,Dr,MP,Tr.opt,Abe,Ab3];rfl
   rw[this];show _≤pw T s1.at_
   omega
 | pr_sign _ _=>trivial
 | pr_deep _ _=>trivial
 | pr_err _ _ _ _=>trivial
 | pr_open _ _ _ _ _=>trivial
 | @pr_ok s s1 a hi hd _ a4 ih=>
  intro _;obtain⟨t,h⟩:=ih Aey Aeb;have a7:s1.deep=s.deep+1:=h.deep;have a8:s.deep+1+Jk 1 t.rank t.need≤12:=h.need;have hw:W (t.opt 1)+pw T (s.at_+1)≤pw T s1.at_:=h.wid;have a0:=Db T s;have a3:=Db T s1;have hc:=F7 hi;have ab:=F7 a4;simp only[Abe,Ab3] at hc ab;refine⟨t,h.fit,h.num,h.out,h.plc,?_,?_,?_⟩
  ·show s1.deep - 1=s.deep;omega
  ·have:=Aay 6 t.rank t.need;have:=Qt 1 t.rank t.need;omega
  ·show _≤pw T (s1.at_+1);rw[I4] at hw ⊢
   split<;>omega
 | pr_end _=>trivial
 | @pr_num s h=>
  intro hd;obtain⟨e,h0,h1⟩:=Abv (G8 hT (s:=s) Aeb) h;have a0:=Db T s;have ek:C1 {kind:=1,num:=(Aa T s).num}=[nA (Aa T s)]:=by rw[e];rfl
  refine Rt.leaf 1 rfl Aef Aef rfl (CN (by show decide (0≤(Aa T s).num)=true;exact decide_eq_true h0) ⟨rfl,rfl,rfl,rfl⟩) (by rw[ek];intro k hk;rw[Aah.1 hk];exact h1) hd rfl rfl ?_;rw[ek,Dr,Ki,Js];show _≤pw T (s.at_+1)
  omega
 | @pr_text s h=>
  intro hd;obtain⟨e,h0⟩:=Abw (G8 hT (s:=s) Aeb) h;have a0:=Db T s;have ek:C1 {kind:=2,text:=(Aa T s).text}=[nA (Aa T s)]:=by rw[e];rfl
  refine Rt.leaf 2 rfl Aef Aef rfl (CN (by show Mn (Aa T s).text=true;exact h0) ⟨rfl,rfl,rfl,rfl⟩) Ae2 hd rfl rfl ?_;rw[ek,Dr,Ki,Js];show _≤pw T (s.at_+1)
  omega
 | @pr_dead s h=>
  intro hd;have e:=Abx (G8 hT (s:=s) Aeb) h;have a0:=Db T s;have ek:C1 {kind:=4}=[nA (Aa T s)]:=by rw[e];rfl
  refine Rt.leaf 4 rfl Aef Aef rfl rfl Ae2 hd rfl rfl ?_;rw[ek,Dr,Ki,Js];show _≤pw T (s.at_+1)
  omega
 | @pr_ref s h _=>
  intro hd;obtain⟨e,h0⟩:=Aa7 (G8 hT (s:=s) Aeb) h;have a0:=Db T s;have ek:C1 {kind:=5,ref:=(Aa T s).ref}=[nA (Aa T s)]:=by rw[e];rfl
  refine Rt.leaf 5 rfl Aef Aef rfl (CN (by show AZ (Aa T s).ref=true;exact h0) ⟨rfl,rfl,rfl,rfl⟩) Ae2 hd rfl rfl ?_;rw[ek,Dr,Ki,Js];show _≤pw T (s.at_+1)
  omega
 | @pr_range s h hi h' hr=>
  intro hd;obtain⟨e,h0⟩:=Aa7 (G8 hT (s:=s) Aeb) h;obtain⟨e',ac⟩:=Aa7 (G8 hT (s:=Al (Al s)) Aeb) h';have a0:=Db T s;have a3:pw T (s.at_+1+1)=pw T (s.at_+1)+(BZ (Aa T (Al s))).length:=Db T (Al s);have ad:pw T (s.at_+1+1+1)=pw T (s.at_+1+1)+(BZ (Aa T (Al (Al s)))).length:=Db T (Al (Al s));have hc:=F7 hi;simp only[Abe,Ab3] at hc;have ek:C1 {kind:=6,ref:=(Aa T s).ref,to:=(Aa T (Al (Al s))).ref}=[nA (Aa T s),sg [58],nA (Aa T (Al (Al s)))]:=by rw[e,e'];rfl
  refine Rt.leaf 6 rfl Aef Aef rfl (CN (by show(AZ (Aa T s).ref&&(AZ (Aa T (Al (Al s))).ref&&Bo (Aa T s).ref (Aa T (Al (Al s))).ref))=true;have h0:AZ (Aa T s).ref=true:=h0;have ac:AZ (Aa T (Al (Al s))).ref=true:=ac;rw[h0,ac,hr];rfl) ⟨rfl,rfl,rfl,rfl⟩) (by
   rw[ek];intro k hk;simp only[Ab0,AbH,or_false] at hk;rcases hk with rfl | rfl | rfl
   ·rw[e];show(0:Int)≤9223372036854775807;decide
   ·decide
   ·rw[e'];show(0:Int)≤9223372036854775807;decide) hd rfl rfl ?_
  rw[ek,Dr,Dr,Dr,Ki,Js,Js,MP];show _≤pw T (s.at_+1+1+1);simp only[Abe,Ab3]
  omega
 | pr_norange _ _ _=>trivial
 | @pr_true s h h1=>
  intro hd;have a0:=Db T s;have hl:(BZ (Aa T s)).length=4:=by simp[BZ,h,h1,Dc]
  refine Rt.leaf 3 rfl Aef Aef rfl rfl Aef hd rfl rfl ?_;have:W (C1 {kind:=3,num:=1})=4:=rfl;rw[this];show _≤pw T (s.at_+1)
  omega
 | @pr_false s h h1=>
  intro hd;have a0:=Db T s;have hl:(BZ (Aa T s)).length=5:=by simp[BZ,h,h1,CL]
  refine Rt.leaf 3 rfl Aef Aef rfl rfl Aef hd rfl rfl ?_;have:W (C1 {kind:=3})=5:=rfl;rw[this];show _≤pw T (s.at_+1)
  omega
 | pr_nocall _ _ _ _=>trivial
 | pr_calldeep _ _ _ _ _=>trivial
 | @pr_call0 s h h1 h2 ae hd a4=>
  intro _;obtain⟨e,f0,f1⟩:=Abd (G8 hT (s:=s) Aeb) h;have hn:C2 (Aa T s).text=true:=by
   have f0:KL (Aa T s).text=true:=f0;have f1:AV (Aa T s).text=false:=f1;simp[C2,f0,f1,h1,h2]
  have a0:=Db T s;have a3:pw T (s.at_+1+1)=pw T (s.at_+1)+(BZ (Aa T (Al s))).length:=Db T (Al s);have ad:pw T (s.at_+1+1+1)=pw T (s.at_+1+1)+(BZ (Aa T (Ax (Al (Al s))))).length:=Db T (Ax (Al (Al s)));have hc:=F7 ae;have ab:=F7 a4;have hx:(BZ (Aa T s)).length=(Aa T s).text.length:=by simp[BZ,h]
  simp only[Abe,Ab3] at hc ab;refine⟨.call (Aa T s).text .nil,⟨hn,trivial⟩,?_,rfl,by simp[Tr.cnt],rfl,?_,?_⟩
  ·intro k hk;simp only[Tr.toks,Ab0,AbH,or_false] at hk;rcases hk with rfl | rfl | rfl
   ·show(0:Int)≤_;decide
   ·decide
   ·decide
  ·show s.deep+1≤12;omega
  ·rw[I4];simp only[Tr.rank,Tr.toks,Dr,Ki,MP,Abe,Ab3];show(Aa T s).text.length+_+_+_≤pw T (s.at_+1+1+1);simp
   omega
 | @pr_call s r h h1 h2 ae hd a4 _ ih=>
  cases r with
  | err e=>trivial
  | ok s2 b=>
   intro _;obtain⟨e,f0,f1⟩:=Abd (G8 hT (s:=s) Aeb) h;have hn:C2 (Aa T s).text=true:=by
    have f0:KL (Aa T s).text=true:=f0;have f1:AV (Aa T s).text=false:=f1;simp[C2,f0,f1,h1,h2]
   obtain⟨r1,a1,hh⟩:=ih Aey s.out .nil hn trivial (λk hk=>by cases hk) (by simp[Tr.flat,Ax,Al]) rfl (by show s.deep+1+0≤12;omega) (by show 1≤s.deep+1;omega);have a0:=Db T s;have a3:pw T (s.at_+1+1)=pw T (s.at_+1)+(BZ (Aa T (Al s))).length:=Db T (Al s);have hc:=F7 ae;have hx:(BZ (Aa T s)).length=(Aa T s).text.length:=by simp[BZ,h]
   simp only[Abe,Ab3] at hc;have a8:s.deep+1+(Tr.snoc r1 a1).need≤12:=hh.need;have hw:W r1.toks+W a1.toks+1+pw T (s.at_+1+1)≤0+pw T s2.at_:=hh.wid;have a7:s2.deep=s.deep+1 - 1:=hh.deep;refine⟨.call (Aa T s).text (.snoc r1 a1),hh.fit,RU hh.num.1 hh.num.2,hh.out,hh.plc,by omega,?_,?_⟩
   ·show s.deep+((Tr.snoc r1 a1).need+1)≤12;omega
   ·rw[I4];simp only[Tr.rank,Tr.toks,Dr,Kh,Ki,MP,Abe,Ab3];show(Aa T s).text.length+_+_+_≤_;simp
    omega
 | ar_err _ _=>trivial
 | @ar_go x ks s s1 a r _ ah _ ih1 ih2=>
  cases r with
  | err e=>trivial
  | ok s2 b=>
   intro hd o rs hx h1 h2 h3 h4 h5 h6;obtain⟨t,h⟩:∃t,Rt T 1 s s1 a t:=ih1 hd Aeb;have aj:=Qt 1 t.rank t.need;have a8:=h.need;have a7:=h.deep;have a5:s.out.length=o.length+rs.cnt:=by rw[h3,Aa9,Tr.flat_len]
   obtain⟨r1,a1,hh⟩:=ih2 (by show s1.deep≤12;omega) o (.snoc rs t) hx ⟨h1,h.fit⟩ (Sc h2 h.num) (by
    show s1.out=_;rw[h.out,h3];simp only[Tr.flat,Abn,Aa9,Tr.flat_len]) (by
    rw[h4,h.plc,a5];simp only[Tr.kids]) (by
    show s1.deep+max rs.need t.need≤12;omega) (by show 1≤s1.deep;omega)
   have af:W (t.opt 1)+pw T s.at_≤pw T s1.at_:=h.wid;have ak:W r1.toks+W a1.toks+1+pw T (s1.at_+1)≤W (Tr.snoc rs t).toks+pw T s2.at_:=hh.wid;have a0:=Db T s1;have hc:=F7 ah;simp only[Abe,Ab3] at hc;have an:s2.deep=s1.deep - 1:=hh.deep;have ao:s1.deep+(Tr.snoc r1 a1).need≤12:=hh.need;refine⟨r1,a1,hh.fit,hh.num,hh.out,hh.plc,by omega,by omega,?_⟩;rw[I4] at af;simp only[Tr.toks,Kh,Dr,Ki,MP,Abe,Ab3] at ak
   omega
 | ar_open _ _ _ _=>trivial
 | @ar_end x ks s s1 a _ ah a4 ih=>
  intro hd o rs hx h1 h2 h3 h4 h5 h6;obtain⟨t,h⟩:∃t,Rt T 1 s s1 a t:=ih hd Aeb;have aj:=Qt 1 t.rank t.need;have a8:=h.need;have a7:=h.deep;have a5:s.out.length=o.length+rs.cnt:=by rw[h3,Aa9,Tr.flat_len]
  have af:W (t.opt 1)+pw T s.at_≤pw T s1.at_:=h.wid;have a0:=Db T s1;have hc:=F7 a4;simp only[Abe,Ab3] at hc;refine⟨rs,t,⟨hx,h1,h.fit⟩,⟨h2,h.num⟩,?_,?_,by show s1.deep - 1=s.deep - 1;omega,?_,?_⟩
  ·show s1.out++[_]=_;rw[h.out,h3,h4,h.plc,a5];simp only[Tr.flat,Tr.kids,Abn,Aa9,Tr.flat_len]
  ·rw[h.out,h3];simp only[Aa9,Tr.flat_len,Tr.cnt];omega
  ·show s.deep+max rs.need t.need≤12;omega
  ·show _≤_+pw T (s1.at_+1);rw[I4] at af;omega
theorem WB{s:List UInt8}{T:List As}{l:List Aj}(h:Ic s=some T)(hp:DS T (.ok l)):∃t:Tr false,t.Fit∧t.Num∧t.flat 0=l∧t.need≤12∧t.text.length≤s.length:=by
 obtain⟨hC,hw⟩:=Rz _ s 0 (Ab2 _) h;obtain⟨s1,a,a0,_,ho⟩:=hp;obtain⟨t,ht⟩:=(a0.trees hC) Aej Aeb;have h1:=ht.out;have h2:=ht.need;have h3:=ht.wid;have h4:=Qt 1 t.rank t.need;have h5:=AaY T s1.at_;rw[I4] at h3;have h6:W T≤s.length:=hw;refine⟨t,ht.fit,ht.num,by rw[←ho,h1];rfl,by simp only[AbP] at h2;omega,?_⟩;show W t.toks≤_;omega
noncomputable def AE(s:List UInt8):Except Int (List Aj):=open Classical in
 if 300<s.length then .error 4 else match Ic s with
 | none=>.error 5
 | some T=>if h:∃o,DS T o then h.choose else .error 0
theorem FM{s:List UInt8}{T:List As}{o:Except Int (List Aj)}(h300:s.length≤300)(hl:Ic s=some T)(hp:DS T o):AE s=o:=by
 unfold AE;rw[if_neg Aeb,hl];have hx:∃o,DS T o:=⟨o,hp⟩;simp only;rw[dif_pos hx];exact hx.choose_spec.det hp
theorem El.res{s:List UInt8}{v:Value}{w:World}{lo:Nat}(h:El s v w lo):AaJ w lo v (AE s):=by
 unfold El at h;by_cases h1:300<s.length
 ·rw[if_pos h1] at h;have:AE s=.error 4:=by unfold AE;rw[if_pos h1]
  rw[this];exact h
 ·rw[if_neg h1] at h
  cases e:Ic s with
  | none=>
   rw[e] at h;have:AE s=.error 5:=by unfold AE;rw[if_neg h1,e]
   rw[this];exact h
  | some T=>
   rw[e] at h;obtain⟨o,hp,hr⟩:=h;rw[FM Aeb e hp];exact hr
theorem Pq{s:List UInt8}{l:List Aj}(h:AE s=.ok l):s.length≤300∧∃t:Tr false,t.Fit∧t.Num∧t.flat 0=l∧t.need≤12∧t.text.length≤s.length:=by
 unfold AE at h
 split at h
 ·cases h
 ·rename_i h1
  split at h
  ·cases h
  ·rename_i T e
   split at h
   ·rename_i hx;have:=hx.choose_spec;rw[h] at this;exact⟨by omega,WB e this⟩
   ·cases h
theorem G4(t:Tr false)(hf:t.Fit)(hn:t.Num):AE t.text=if 300<t.text.length then .error 4 else if t.need≤12 then .ok (t.flat 0) else .error 6:=by
 obtain⟨T,h1,h2⟩:=t.lex hf hn;by_cases h3:300<t.text.length
 ·rw[if_pos h3];unfold AE;rw[if_pos h3]
 ·rw[if_neg h3];exact FM Aeb h1 (t.again hf h2)
def D7(o:Nat):Tr false→Aj
 | .leaf n=>n
 | .neg a=>{kind:=8,kids:=[((o+a.cnt - 1:Nat):Int)]}
 | .two k a b=>{kind:=k,kids:=[((o+a.cnt - 1:Nat):Int),((o+a.cnt+b.cnt - 1:Nat):Int)]}
 | .call x ks=>{kind:=7,text:=x,kids:=ks.kids o}
def QU(o:Nat):Tr false→List Aj
 | .leaf _=>[]
 | .neg a=>a.flat o
 | .two _ a b=>a.flat o++b.flat (o+a.cnt)
 | .call _ ks=>ks.flat o
theorem DA(o:Nat)(t:Tr false):t.flat o=QU o t++[D7 o t]:=by
 cases t with
 | leaf n=>rfl
 | neg a=>rfl
 | two k a b=>rfl
 | call x ks=>rfl
theorem X6(o:Nat)(t:Tr false):(QU o t).length+1=t.cnt:=by
 have:=congrArg List.length (DA o t)
 simpa[Tr.flat_len] using this.symm
theorem KE{α:Type}{a b:List α}{x y:α}(h:a++[x]=b++[y]):a=b∧x=y:=by
 have:=List.append_inj' h rfl;exact⟨this.1,by simpa using this.2⟩
theorem Nu:∀(ks:Tr true) (o o':Nat),(ks.kids o).length=(ks.kids o').length
 | .nil,_,_=>rfl
 | .snoc rs a,o,o'=>by simp[Tr.kids,Nu rs o o']
theorem Tr.inj:∀{b:Bool} (t u:Tr b),t.Fit→u.Fit→∀l m:List Aj,l++t.flat l.length=m++u.flat m.length→(b=false∨(t.kids 0).length=(u.kids 0).length)→t=u∧l=m
 | _,.leaf n,u,hf,hu,l,m,h,_=>by
  rw[DA _ u,←List.append_assoc] at h;obtain⟨h1,h2⟩:=KE (a:=l) h
  cases u with
  | leaf n'=>exact⟨by rw[show n=n' from h2],by simpa[QU] using h1⟩
  | neg a=>have:=hf.2.1;rw[h2] at this;simp[D7] at this
  | two k a b=>have:=hf.2.1;have:=hu.1;rw[h2] at *;simp[D7] at *;omega
  | call x ks=>have:=hf.2.1;rw[h2] at this;simp[D7] at this
 | _,.neg a,u,hf,hu,l,m,h,_=>by
  rw[DA _ u,DA _ (.neg a),←List.append_assoc,←List.append_assoc] at h;obtain⟨h1,h2⟩:=KE h
  cases u with
  | leaf n'=>have:=hu.2.1;rw[←show D7 l.length (.neg a)=n' from h2] at this;simp[D7] at this
  | neg a'=>
   obtain⟨e1,e2⟩:=inj a a' hf hu l m h1 (.inl rfl)
   exact⟨by rw[e1],e2⟩
  | two k a b=>have:=hu.1;have h3:=congrArg Aj.kind h2;simp[D7] at h3;omega
  | call x ks=>have h3:=congrArg Aj.kind h2;simp[D7] at h3
 | _,.two k a b,u,hf,hu,l,m,h,_=>by
  rw[DA _ u,DA _ (.two k a b),←List.append_assoc,←List.append_assoc] at h;obtain⟨h1,h2⟩:=KE h;have h3:=congrArg Aj.kind h2;have hk:=hf.1
  cases u with
  | leaf n'=>have:=hu.2.1;simp[D7] at h3;omega
  | neg a'=>simp[D7] at h3;omega
  | two k' a' b'=>
   simp only[QU] at h1;rw[←List.append_assoc,←List.append_assoc] at h1;have e:l.length+a.cnt=(l++a.flat l.length).length:=by simp[Tr.flat_len]
   have e':m.length+a'.cnt=(m++a'.flat m.length).length:=by simp[Tr.flat_len]
   rw[e,e'] at h1;obtain⟨q1,q2⟩:=inj b b' hf.2.2.2 hu.2.2.2 _ _ h1 (.inl rfl);obtain⟨q3,q4⟩:=inj a a' hf.2.2.1 hu.2.2.1 l m q2 (.inl rfl);refine⟨?_,q4⟩
   rw[q1,q3,show k=k' from h3]
  | call x ks=>simp[D7] at h3;omega
 | _,.call x ks,u,hf,hu,l,m,h,_=>by
  rw[DA _ u,DA _ (.call x ks),←List.append_assoc,←List.append_assoc] at h;obtain⟨h1,h2⟩:=KE h;have h3:=congrArg Aj.kind h2
  cases u with
  | leaf n'=>have:=hu.2.1;simp[D7] at h3;omega
  | neg a'=>simp[D7] at h3
  | two k a b=>have:=hu.1;simp[D7] at h3;omega
  | call x' ks'=>
   have h4:=congrArg (λn=>n.kids.length) h2;simp only[D7] at h4;obtain⟨q1,q2⟩:=inj ks ks' hf.2 hu.2 l m h1 (.inr (by rw[Nu ks 0 l.length,Nu ks' 0 m.length];exact h4));have h5:=congrArg Aj.text h2;refine⟨?_,q2⟩
   rw[q1,show x=x' from h5]
 | _,.nil,u,_,_,l,m,h,hk=>by
  rcases u.snoc_form with rfl | ⟨rs,a,rfl⟩
  ·exact⟨rfl,by simpa[Tr.flat] using h⟩
  ·simp[Tr.kids] at hk
 | _,.snoc rs a,u,hf,hu,l,m,h,hk=>by
  rcases u.snoc_form with rfl | ⟨rs',a',rfl⟩
  ·simp[Tr.kids] at hk
  ·simp only[Tr.flat] at h;rw[←List.append_assoc,←List.append_assoc] at h;have e:l.length+rs.cnt=(l++rs.flat l.length).length:=by simp[Tr.flat_len]
   have e':m.length+rs'.cnt=(m++rs'.flat m.length).length:=by simp[Tr.flat_len]
   rw[e,e'] at h;obtain⟨q1,q2⟩:=inj a a' hf.2 hu.2 _ _ h (.inl rfl);obtain⟨q3,q4⟩:=inj rs rs' hf.1 hu.1 l m q2 (.inr (by simpa[Tr.kids] using hk));exact⟨by rw[q1,q3],q4⟩
theorem Tr.goes:∀{b:Bool} (t:Tr b),t.Fit→∀(o:Nat) (st:List Int),Bk o st (t.flat o)=some (st++(if b then t.kids o else[((o+t.cnt - 1:Nat):Int)]))
 | _,.leaf n,hf,o,st=>by
  have hc:Fv n=n.kids.length:=by
   have h1:=hf.1;have h2:=hf.2.1;have a0:BC n.kind=0:=by
    unfold BC;rw[if_neg Aeb,if_neg Aeb,if_neg Aeb,if_neg Aeb]
   rw[hf.2.2.1,Fv,a0];rfl
  have:=II (l:=[]) (i:=o) (st:=st) (st':=st) (ks:=[]) (by simp[Bk]) hf.2.2.1 hc hf.2.2.2
  simpa[Tr.cnt,Tr.flat] using this
 | _,.neg a,hf,o,st=>by
  have h:=goes a hf o st;have:=II (ks:=[((o+a.cnt - 1:Nat):Int)]) (n:={kind:=8,kids:=[((o+a.cnt - 1:Nat):Int)]}) h rfl rfl rfl;rw[Tr.flat_len] at this
  simpa[Tr.cnt,Tr.flat] using this
 | _,.two k a b,hf,o,st=>by
  have h1:=goes a hf.2.2.1 o st;have h2:=goes b hf.2.2.2 (o+a.cnt) (st++[((o+a.cnt - 1:Nat):Int)]);have hn:=Oy hf.1 hf.2.1 ((o+a.cnt - 1:Nat):Int) ((o+a.cnt+b.cnt - 1:Nat):Int);have h3:Bk o st (a.flat o++b.flat (o+a.cnt))=some (st++[((o+a.cnt - 1:Nat):Int),((o+a.cnt+b.cnt - 1:Nat):Int)]):=by
   rw[DX,h1];simp only[AbK,if_false,Ac4,Tr.flat_len];simp only[AbK,if_false] at h2;rw[h2];simp
  have:=II (n:={kind:=k,kids:=[((o+a.cnt - 1:Nat):Int),((o+a.cnt+b.cnt - 1:Nat):Int)]}) h3 rfl hn.1 hn.2;simp only[Aa9,Tr.flat_len] at this;simp only[Tr.flat,this,Tr.cnt]
  simp
 | _,.call x ks,hf,o,st=>by
  have h:=goes ks hf.2 o st;simp only[if_true] at h;have hn:=IU hf.1 (ks.kids o);have:=II (n:={kind:=7,text:=x,kids:=ks.kids o}) h rfl hn.1 hn.2;rw[Tr.flat_len] at this
  simpa[Tr.cnt,Tr.flat] using this
 | _,.nil,_,o,st=>by simp[Bk,Tr.flat,Tr.kids]
 | _,.snoc rs a,hf,o,st=>by
  have h1:=goes rs hf.1 o st;have h2:=goes a hf.2 (o+rs.cnt) (st++rs.kids o);simp only[if_true] at h1;simp only[AbK,if_false] at h2;simp only[Tr.flat,Tr.kids,DX,h1,Ac4,Tr.flat_len,h2,if_true];simp
theorem Tr.tree(t:Tr false)(hf:t.Fit):BV (t.flat 0)=true:=by
 have:=t.goes hf 0 [];simp only[AbN,AbK,if_false] at this;rw[BV,this];rfl
noncomputable def BN(l:List Aj):List UInt8:=open Classical in if h:∃t:Tr false,t.Fit∧t.flat 0=l then h.choose.text else[]
theorem FO{t:Tr false}(hf:t.Fit):BN (t.flat 0)=t.text:=by
 unfold BN;have hx:∃u:Tr false,u.Fit∧u.flat 0=t.flat 0:=⟨t,hf,rfl⟩;rw[dif_pos hx];obtain⟨h1,h2⟩:=hx.choose_spec;rw[(Tr.inj _ t h1 hf [] [] Ae7 (.inl rfl)).1]
theorem L9{l:List Aj}(h:BV l=false):BN l=[]:=by
 unfold BN;rw[dif_neg];rintro⟨t,hf,rfl⟩;rw[t.tree hf] at h;cases h
theorem G6{s:List UInt8}{l:List Aj}(h:AE s=.ok l):AE (BN l)=.ok l∧(BN l).length≤s.length∧BV l=true∧∃t:Tr false,t.Fit∧t.Num∧t.flat 0=l∧BN l=t.text:=by
 obtain⟨h3,t,hf,hn,rfl,hd,hl⟩:=Pq h;rw[FO hf,G4 t hf hn,if_neg Aeb,if_pos hd];exact⟨rfl,hl,t.tree hf,t,hf,hn,rfl,rfl⟩
theorem LA(s:List UInt8):(DV s).length≤2*s.length+2:=by
 have:∀s:List UInt8,(s.flatMap (λc=>if c=(34:UInt8) then[34,34] else[c])).length≤2*s.length:=by
  intro s
  induction s with
  | nil=>simp
  | cons c s ih=>
   simp only[AbV,Aa9,Abe];by_cases h:c=34
   ·rw[if_pos h];simp only[Abe,Ab3];omega
   ·rw[if_neg h];simp only[Abe,Ab3];omega
 have:=this s;simp only[DV,Abe,Aa9,Ab3];omega
theorem LM{r:C3}(h:AZ r=true):(BG r).length≤r.sheet.length+10:=by
 obtain⟨_,_,_,r0,r1⟩:=DD h;have h1:=(Gy (z:=r.row+1) Aeb Aeb).2.2.1;have h2:=Ir r.col;have h3:=F8 r.ac;have h4:=F8 r.ar;unfold BG
 split<;>simp only[Aa9,Abe,Ab3]<;>omega
theorem MK.get{w:World}{lo:Nat}{sv:Value}{l:List Aj}(h:MK w lo sv l)(hn:0<l.length) :
  ∃(g cap:Nat) (nvs:List NV) (sp:List Value),sv=.slice (some ⟨g,0,none⟩) l.length cap∧Blk w g (nvs.flatMap BO++sp) 189∧nvs.map NV.node=l∧∀x∈nvs,BW w x.kv x.node.kids:=by
 obtain⟨nvs,ho,hm,hk⟩:=h;have hl:nvs.length=l.length:=by rw[←hm];simp
 obtain⟨g,cap,sp,rfl,hB,_⟩:=ho.get Aeb;exact⟨g,cap,nvs,sp,by rw[hl],hB,hm,hk⟩
theorem Wm{nvs:List NV}{l:List Aj}(hm:nvs.map NV.node=l){i:Nat}{nd:Aj}(h:l[i]?=some nd):∃kv,nvs[i]?=some ⟨nd,kv⟩:=by
 rw[←hm,AbR] at h
 cases e:nvs[i]? with
 | none=>rw[e] at h;cases h
 | some x=>
  rw[e] at h;simp only[AbG,AaZ] at h;exact⟨x.kv,by rw[←h]⟩
theorem QC{i:Nat}{st st':List Int}{n:Aj}(h:Dp i st n=some st'):n.kids.length≤st.length∧st'.length≤st.length+1:=by
 unfold Dp at h
 split at h
 ·rename_i hc;simp only[AaZ] at h;subst h;exact⟨hc.2.1,by simp⟩
 ·cases h
theorem Ms:∀(l:List Aj) (i:Nat) (st st':List Int),Bk i st l=some st'→∀n∈l,n.kids.length≤st.length+l.length
 | [],_,_,_,_,_,hn=>absurd hn Aej
 | m::t,i,st,st',h,n,hn=>by
  rw[Bk] at h
  cases e:Dp i st m with
  | none=>rw[e] at h;cases h
  | some s1=>
   rw[e] at h;obtain⟨h1,h2⟩:=QC e;rcases Ab0.1 hn with rfl | hn
   ·simp;omega
   ·have:=Ms t (i+1) s1 st' h n hn;simp;omega
theorem Ox{l:List Aj}(h:BV l=true):∀n∈l,n.kids.length≤l.length:=by
 unfold BV at h
 split at h
 ·rename_i st e;intro n hn;have:=Ms l 0 [] st e n hn
  simpa using this
 ·cases h
theorem MK.row{w:World}{lo:Nat}{sv:Value}{l:List Aj}(h:MK w lo sv l)(hl:l.length≤100000)(hk:∀n∈l,n.kids.length≤100000):Cv w sv l:=by
 refine⟨hl,?_⟩;by_cases h0:l.length=0
 ·have a1:l=[]:=AbA h0;subst a1;obtain⟨nvs,ho,hm,_⟩:=h;have a2:nvs=[]:=by simpa using hm
  subst a2;obtain⟨_,⟨e,_⟩ | ⟨g,cap,sp,e,hB,_⟩⟩:=ho
  ·exact .inl ⟨e,rfl⟩
  ·exact .inr ⟨_,cap,e,λi nd hi=>by simp at hi⟩
 ·obtain⟨g,cap,nvs,sp,rfl,hB,hm,a0⟩:=h.get Aeb;refine .inr ⟨_,cap,rfl,λi nd hi=>?_⟩;obtain⟨kv,hg⟩:=Wm hm hi;refine⟨kv,⟨by have:=hk nd (Ab4 hi);omega,?_⟩,λj u hu=>?_⟩
  ·rcases a0 _ (Ab4 hg) with ⟨e1,e2⟩ | ⟨b',cap',sp',e1,a3⟩
   ·exact .inl ⟨e1,e2⟩
   ·refine .inr ⟨_,cap',e1,λj z hz=>a3.getElem _ _ ?_⟩;rw[Ab6 (by
     rw[AC];rcases AbW j nd.kids.length with h | h
     ·exact h
     ·rw[AbE h] at hz;cases hz)]
    exact H1 hz
  ·have hj:j<14:=by
    rcases AbW j 14 with h | h
    ·exact h
    ·rw[AbE (by rw[Yo];exact h)] at hu;cases hu
   rw[Addr.add_add];refine hB.getElem _ _ ?_;rw[GQ Yo nvs sp i _ j hg hj];exact hu
theorem PE.errs{T:List As}{m:DY}{s:Bx}{r:Ii}(h:PE T m s r):∀e,r=.err e→e=5∨e=6:=by
 induction h with
 | lev_err _ ih=>intro e he;cases he;exact ih _ rfl
 | lev_ok _ _ _ ih=>exact ih
 | loop_end _=>intro e he;cases he
 | loop_err _ _ ih=>intro e he;cases he;exact ih _ rfl
 | loop_go _ _ _ _ ih=>exact ih
 | un_prim _ _ ih=>exact ih
 | un_deep _ _=>intro e he;cases he;exact .inr rfl
 | un_err _ _ _ ih=>intro e he;cases he;exact ih _ rfl
 | un_ok _ _ _ _=>intro e he;cases he
 | pr_sign _ _=>intro e he;cases he;exact .inl rfl
 | pr_deep _ _=>intro e he;cases he;exact .inr rfl
 | pr_err _ _ _ ih=>intro e he;cases he;exact ih _ rfl
 | pr_open _ _ _ _ _=>intro e he;cases he;exact .inl rfl
 | pr_ok _ _ _ _ _=>intro e he;cases he
 | pr_end _=>intro e he;cases he;exact .inl rfl
 | pr_num _=>intro e he;cases he
 | pr_text _=>intro e he;cases he
 | pr_dead _=>intro e he;cases he
 | pr_ref _ _=>intro e he;cases he
 | pr_range _ _ _ _=>intro e he;cases he
 | pr_norange _ _ _=>intro e he;cases he;exact .inl rfl
 | pr_true _ _=>intro e he;cases he
 | pr_false _ _=>intro e he;cases he
 | pr_nocall _ _ _ _=>intro e he;cases he;exact .inl rfl
 | pr_calldeep _ _ _ _ _=>intro e he;cases he;exact .inr rfl
 | pr_call0 _ _ _ _ _ _=>intro e he;cases he
 | pr_call _ _ _ _ _ _ _ ih=>exact ih
 | ar_err _ ih=>intro e he;cases he;exact ih _ rfl
 | ar_go _ _ _ _ ih=>exact ih
 | ar_open _ _ _ _=>intro e he;cases he;exact .inl rfl
 | ar_end _ _ _ _=>intro e he;cases he
theorem Tr.cnt_le:∀{b:Bool} (t:Tr b),t.Fit→t.Num→t.cnt≤W t.toks
 | _,.leaf n,hf,hn=>by
  obtain⟨u,m,e,hk,_⟩:=GS hf.1 hf.2.1;have hc:=(LO ((Tr.leaf n).can hf hn u (by show u∈C1 n;rw[e];simp))).1;show 1≤W (C1 n);rw[e,Dr];have:=AbB.2 hc
  omega
 | _,.neg a,hf,hn=>by
  have ha:=cnt_le a hf (λu hu=>hn u Aev);simp only[Tr.cnt,Tr.toks,Dr,Xv,MP,Abe,Ab3]
  omega
 | _,.two o a b,hf,hn=>by
  have ha:=cnt_le a hf.2.2.1 (λu hu=>hn u Aer);have hb:=cnt_le b hf.2.2.2 (λu hu=>hn u Aeq);have hs:=AbB.2 (KD _ (Jq hf.1 hf.2.1)).1;simp only[Tr.cnt,Tr.toks,Kh,Dr,Xv,MP]
  omega
 | _,.call x .nil,hf,hn=>by
  simp only[Tr.cnt,Tr.toks,Dr,MP,Abe,Ab3]
  omega
 | _,.call x (.snoc rs a),hf,hn=>by
  have hr:=cnt_le rs hf.2.1 (λu hu=>hn u Aek);have ha:=cnt_le a hf.2.2 (λu hu=>hn u Aek);simp only[Tr.cnt,Tr.toks,Dr,Kh,MP,Abe,Ab3]
  omega
 | _,.nil,_,_=>Ac8 _
 | _,.snoc rs a,hf,hn=>by
  have hr:=cnt_le rs hf.1 (λu hu=>hn u Aek);have ha:=cnt_le a hf.2 (λu hu=>hn u Aek);simp only[Tr.cnt,Tr.toks,Kh];omega
def PIs(s:List UInt8)(l:List Aj)(e:Int):Prop:=AE s=.ok l∧e=0∨AE s=.error e∧l=[]∧(e=4∨e=5∨e=6)
theorem Qz{s:List UInt8}{l:List Aj}(h:AE s=.ok l):DN l:=by
 unfold AE at h
 split at h
 ·cases h
 ·rename_i h1
  split at h
  ·cases h
  ·rename_i T e
   split at h
   ·rename_i hx;have hp:=hx.choose_spec;rw[h] at hp;exact(DS.tree (Zu Aeb e) hp).2
   ·cases h
theorem Ed{s:List UInt8}{l:List Aj}(h:AE s=.ok l):s.length≤300∧BV l=true∧DN l∧l.length≤300∧∀n∈l,n.kids.length≤300:=by
 obtain⟨h3,t,hf,hn,rfl,hd,hl⟩:=Pq h;have ht:=t.tree hf;have hc:=t.cnt_le hf hn;have a0:(t.flat 0).length≤300:=by
  rw[Tr.flat_len];have:W t.toks=t.text.length:=rfl;omega
 exact⟨h3,ht,Qz h,a0,λn hm=>Acd (Ox ht n hm) a0⟩
theorem PIs.facts{s:List UInt8}{l:List Aj}{e:Int}(h:PIs s l e):DN l∧l.length≤300∧(∀n∈l,n.kids.length≤300)∧BV l=decide (e=0)∧0≤e∧e≤6:=by
 rcases h with ⟨h,rfl⟩ | ⟨h,rfl,he⟩
 ·obtain⟨_,h1,h2,h3,h4⟩:=Ed h;exact⟨h2,h3,h4,by rw[h1];rfl,by omega,by omega⟩
 ·refine⟨λn hn=>(AbH hn).elim,by simp,λn hn=>(AbH hn).elim,?_,by omega,by omega⟩;have:BV []=false:=rfl;rw[this];simp;omega
theorem NF(w:World):Cv w (.slice none 0 0) []:=⟨by simp,.inl ⟨rfl,rfl⟩⟩
theorem El.both{s:List UInt8}{v:Value}{w:World}{lo:Nat}(h:El s v w lo):∃l e sv,v=.tuple #[sv,.int .i64 e]∧Cv w sv l∧PIs s l e:=by
 have hr:=h.res
 cases hp:AE s with
 | ok l=>
  rw[hp] at hr;obtain⟨sv,rfl,hn⟩:=hr;obtain⟨_,h1,h2,h3,h4⟩:=Ed hp
  exact⟨l,0,sv,rfl,hn.row Aeb (λn hm=>by have:=h4 n hm;omega),.inl ⟨hp,rfl⟩⟩
 | error e=>
  rw[hp] at hr;refine⟨[],e,_,hr,NF w,.inr ⟨hp,rfl,?_⟩⟩;unfold El at h;by_cases h1:300<s.length
  ·have:AE s=.error 4:=by unfold AE;rw[if_pos h1]
   rw[this] at hp;simp only[Except.error.injEq] at hp;omega
  ·rw[if_neg h1] at h
   cases hl:Ic s with
   | none=>
    have:AE s=.error 5:=by unfold AE;rw[if_neg h1,hl]
    rw[this] at hp;simp only[Except.error.injEq] at hp
    omega
   | some T=>
    rw[hl] at h;obtain⟨o,a0,_⟩:=h;have:=FM Aeb hl a0;rw[hp] at this;subst this;rcases a0 with h | ⟨h,_⟩
    ·have:=h.errs _ rfl;omega
    ·omega
def Ek(l:List Aj)(o:Nat){b:Bool}(t:Tr b):Prop:=∃suf,l.drop o=t.flat o++suf
theorem KW{l:List Aj}{o n:Nat}{x y:List Aj}(h:l.drop o=x++y)(hn:x.length=n):l.drop (o+n)=y:=by
 rw[←List.drop_drop,h,←hn,AdX]
theorem Ek.node{l:List Aj}{o:Nat}{t:Tr false}(h:Ek l o t):l[o+t.cnt - 1]?=some (D7 o t):=by
 obtain⟨suf,h⟩:=h;rw[DA,Abn] at h;have hb:=X6 o t;have e:=KW h rfl;have e2:o+t.cnt - 1=o+(QU o t).length:=Aeb
 have:=congrArg List.head? e;rw[e2,←List.head?_drop,this];rfl
theorem Ek.neg{l:List Aj}{o:Nat}{a:Tr false}(h:Ek l o (.neg a)):Ek l o a:=by
 obtain⟨suf,h⟩:=h;simp only[Tr.flat,Abn] at h;exact⟨_,h⟩
theorem Ek.two{l:List Aj}{o:Nat}{k:Int}{a b:Tr false}(h:Ek l o (.two k a b)):Ek l o a∧Ek l (o+a.cnt) b:=by
 obtain⟨suf,h⟩:=h;simp only[Tr.flat,Abn] at h;exact⟨⟨_,h⟩,_,KW h (a.flat_len o)⟩
theorem Ek.call{l:List Aj}{o:Nat}{x:List UInt8}{ks:Tr true}(h:Ek l o (.call x ks)):Ek l o ks:=by
 obtain⟨suf,h⟩:=h;simp only[Tr.flat,Abn] at h;exact⟨_,h⟩
theorem Ek.snoc{l:List Aj}{o:Nat}{ks:Tr true}{a:Tr false}(h:Ek l o (.snoc ks a)):Ek l o ks∧Ek l (o+ks.cnt) a:=by
 obtain⟨suf,h⟩:=h;simp only[Tr.flat,Abn] at h;exact⟨⟨_,h⟩,_,KW h (ks.flat_len o)⟩
theorem Ek.whole(t:Tr false):Ek (t.flat 0) 0 t:=⟨[],by simp⟩
def Tr.row(o:Nat):{b:Bool}→Tr b→List (Nat×Tr false)
 | _,.snoc ks a=>ks.row o++[(o+ks.cnt,a)]
 | _,_=>[]
theorem Og(o:Nat):∀(ks:Tr true),ks.kids o=(ks.row o).map (λx=>((x.1+x.2.cnt - 1:Nat):Int))
 | .nil=>rfl
 | .snoc rs a=>by simp[Tr.kids,Tr.row,Og o rs]
theorem Tr.cnt_pos(t:Tr false):0<t.cnt:=by cases t<;>simp[Tr.cnt]
theorem P4(rs:Tr true)(a:Tr false):(Tr.snoc rs a).text=rs.text++(a.text++[44]):=by
 simp only[Tr.text,Tr.toks,Acb,AbV,AdR,Dw,AbD]
theorem PA(x:List UInt8):BZ ⟨3,x,0,A4,0⟩=x:=rfl
theorem OM(x:List UInt8)(rs:Tr true)(a:Tr false):(Tr.call x (.snoc rs a)).text=x++([40]++(rs.text++(a.text++[41]))):=by
 simp only[Tr.text,Tr.toks,Acb,AbV,AdR,Dw,PA,AbD]
theorem Q5{l:List Aj}{o:Nat}:∀(ks:Tr true),ks.Fit→ks.Num→Ek l o ks→∀x∈ks.row o,Ek l x.1 x.2∧x.2.Fit∧x.2.Num∧x.2.cnt≤ks.cnt∧x.2.text.length≤ks.text.length
 | .nil,_,_,_,x,hx=>by cases hx
 | .snoc rs a,hf,hn,h,x,hx=>by
  have hnr:rs.Num:=λu hu=>hn u Aek;have hna:a.Num:=λu hu=>hn u Aek;have htx:(Tr.snoc rs a).text.length=rs.text.length+a.text.length+1:=by rw[P4];simp only[Aa9,Abe,Ab3];omega
  simp only[Tr.row,Ab1,Aah] at hx;rcases hx with hx | rfl
  ·obtain⟨h1,h2,h3,h4,h5⟩:=Q5 rs hf.1 hnr h.snoc.1 x hx;exact⟨h1,h2,h3,by simp only[Tr.cnt];omega,by omega⟩
  ·exact⟨h.snoc.2,hf.2,hna,by simp[Tr.cnt],by simp only;omega⟩
def Ip(b:Bool)(s:List UInt8):List UInt8:=if b then[40]++s++[41] else s
theorem QV(b:Bool)(l:List As):(brk b l).flatMap BZ=Ip b (l.flatMap BZ):=by
 unfold brk Ip
 split<;>simp[Dw]
theorem N9(a:Tr false):(Tr.neg a).text=[45]++Ip (decide (a.rank<5)) a.text:=by
 simp[Tr.text,Tr.toks,Dw,QV]
theorem Oz(k:Int)(a b:Tr false):(Tr.two k a b).text=Ip (decide (a.rank<BT k)) a.text++F3 k++Ip (decide (b.rank<BT k+1)) b.text:=by
 simp[Tr.text,Tr.toks,Dw,QV]
def Uw(r:List (Nat×Tr false)):List UInt8:=r.flatMap (λx=>x.2.text++[44])
theorem S7(o:Nat):∀(ks:Tr true),ks.text=Uw (ks.row o)
 | .nil=>rfl
 | .snoc rs a=>by
  have ih:=S7 o rs;simp only[Tr.text] at ih;simp[Tr.text,Tr.toks,Tr.row,Uw,ih,Dw]
def He(r:List (Nat×Tr false)):Nat→List UInt8
 | 0=>[]
 | i+1=>Uw (r.take i)++(match r[i]? with
  | some x=>x.2.text
  | none=>[])
theorem WE{r:List (Nat×Tr false)}{i:Nat}{x:Nat×Tr false}(h:r[i]?=some x):Uw (r.take (i+1))=Uw (r.take i)++x.2.text++[44]:=by
 rw[AbO,h];simp[Uw]
theorem LC{r:List (Nat×Tr false)}{i:Nat}{x:Nat×Tr false}(h:r[i]?=some x):He r (i+1)=He r i++(if 0<i then[44] else[])++x.2.text:=by
 cases i with
 | zero=>simp[He,h,Uw]
 | succ j=>
  have hj:j<r.length:=by
   rcases AbW j r.length with h' | h'
   ·exact h'
   ·rw[AbE Aeb] at h;cases h
  have hy:r[j]?=some r[j]:=Aav hj;simp only[He,h,hy,WE hy];simp
theorem KS(x:List UInt8)(o:Nat)(ks:Tr true):(Tr.call x ks).text=x++[40]++He (ks.row o) (ks.row o).length++[41]:=by
 rcases ks.snoc_form with rfl | ⟨rs,a,rfl⟩
 ·simp[Tr.text,Tr.toks,Dw,PA,Tr.row,He]
 ·have hr:=S7 o rs;have hl:(rs.row o++[(o+rs.cnt,a)]).length=(rs.row o).length+1:=Aej
  simp only[Tr.row,hl,He];rw[OM,hr];simp
theorem Lw{n:Aj}(hp:Au n=true)(h0:1≤n.kind)(h1:n.kind≤6):(Tr.leaf n).text=if n.kind=1 then Lib.itoa n.num else if n.kind=2 then DV n.text else if n.kind=3 then(if n.num=1 then Dc else CL) else if n.kind=4 then Ea else if n.kind=5 then Cl n.ref else Cl n.ref++[58]++Cl n.to:=by
 have ho:=Ee hp;have:n.kind=1∨n.kind=2∨n.kind=3∨n.kind=4∨n.kind=5∨n.kind=6:=Aeb
 rcases this with h | h | h | h | h | h<;>simp only[F9,h,if_true,if_false,Int.reduceEq,Abr,decide_eq_true_eq] at ho<;>simp[Tr.text,Tr.toks,C1,h,BZ,sg]
 ·rw[Cl,if_pos ho]
 ·rw[Cl,Cl,if_pos ho.1,if_pos ho.2.1]
theorem Jn(o:Nat)(t:Tr false)(hf:t.Fit):BT (D7 o t).kind=t.rank:=by
 cases t with
 | leaf n=>
  have h0:=hf.1;have h1:=hf.2.1;show BT n.kind=6;unfold BT
  rw[if_neg Aeb,if_neg Aeb,if_neg Aeb,if_neg Aeb,if_neg Aeb]
 | neg a=>rfl
 | two k a b=>rfl
 | call x ks=>rfl
theorem Kk(b:Bool)(s:List UInt8):s.length≤(Ip b s).length∧(Ip b s).length≤s.length+2:=by
 unfold Ip
 split
 ·simp only[Aa9,Abe,Ab3];omega
 ·omega
theorem Hf{r:List (Nat×Tr false)}(i:Nat):∀k,i+k≤r.length→(He r i).length≤(He r (i+k)).length
 | 0,_=>Ab2 _
 | k+1,h=>by
  have ih:=Hf (r:=r) i k Aeb;have hlt:i+k<r.length:=Aeb
  have hx:r[i+k]?=some r[i+k]:=Aav hlt;have e:=congrArg List.length (LC hx);simp only[Aa9] at e;rw[←Nat.add_assoc,e];omega
theorem QZ{x:List UInt8}{ks:Tr true}(h:(Tr.call x ks).Num):ks.Num:=by
 rcases ks.snoc_form with rfl | ⟨rs,a,rfl⟩
 ·intro u hu;cases hu
 ·intro u hu;simp only[Tr.toks,Ab1,Ab0,AbH,or_false] at hu;rcases hu with hu | hu | rfl
  ·exact h u Aek
  ·exact h u Aek
  ·simp[sg]
theorem Tr.num_of:∀{b:Bool} (t:Tr b) (o:Nat),t.Fit→(∀n∈t.flat o,n.num≤9223372036854775807)→t.Num
 | _,.leaf n,o,hf,hs=>by
  have hx:=hs n (by simp[Tr.flat]);intro u hu;have h0:=hf.1;have h1:=hf.2.1;have:n.kind=1∨n.kind=2∨n.kind=3∨n.kind=4∨n.kind=5∨n.kind=6:=Aeb
  rcases this with h | h | h | h | h | h<;>simp only[Tr.toks,C1,h,if_true,if_false,Int.reduceEq,Ab0,AbH,or_false] at hu
  ·subst hu;exact hx
  ·subst hu;simp
  ·subst hu;simp
  ·subst hu;simp
  ·subst hu;simp
  ·rcases hu with rfl | rfl | rfl<;>simp[sg]
 | _,.neg a,o,hf,hs=>by
  have ha:=num_of a o hf (λn hm=>hs n Aem);intro u hu;simp only[Tr.toks,Ab0] at hu;rcases hu with rfl | hu
  ·simp[sg]
  ·rcases F6 hu with hu | rfl | rfl
   ·exact ha u hu
   ·simp[sg]
   ·simp[sg]
 | _,.two k a b,o,hf,hs=>by
  have ha:=num_of a o hf.2.2.1 (λn hm=>hs n Aem);have hb:=num_of b (o+a.cnt) hf.2.2.2 (λn hm=>hs n Aem);intro u hu;simp only[Tr.toks,Ab1,Ab0] at hu;rcases hu with hu | rfl | hu
  ·rcases F6 hu with hu | rfl | rfl
   ·exact ha u hu
   ·simp[sg]
   ·simp[sg]
  ·simp[sg]
  ·rcases F6 hu with hu | rfl | rfl
   ·exact hb u hu
   ·simp[sg]
   ·simp[sg]
 | _,.call x .nil,o,hf,hs=>by
  intro u hu;simp only[Tr.toks,Ab0,AbH,or_false] at hu
  rcases hu with rfl | rfl | rfl<;>simp[sg]
 | _,.call x (.snoc rs a),o,hf,hs=>by
  have hr:=num_of rs o hf.2.1 (λn hm=>hs n Aem);have ha:=num_of a (o+rs.cnt) hf.2.2 (λn hm=>hs n Aem);intro u hu;simp only[Tr.toks,Ab0,Ab1,AbH,or_false] at hu;rcases hu with rfl | rfl | hu | hu | rfl
  ·simp
  ·simp[sg]
  ·exact hr u hu
  ·exact ha u hu
  ·simp[sg]
 | _,.nil,o,_,_=>λu hu=>by cases hu
 | _,.snoc rs a,o,hf,hs=>by
  have hr:=num_of rs o hf.1 (λn hm=>hs n Aem);have ha:=num_of a (o+rs.cnt) hf.2 (λn hm=>hs n Aem);intro u hu;simp only[Tr.toks,Ab1,Ab0,AbH,or_false] at hu;rcases hu with hu | hu | rfl
  ·exact hr u hu
  ·exact ha u hu
  ·simp[sg]
theorem Tr.len_le:∀{b:Bool} (t:Tr b) (o:Nat),t.Fit→t.Num→(∀n∈t.flat o,n.text.length≤1000)→t.text.length+cond b 0 1≤4000*t.cnt
 | _,.leaf n,o,hf,hn,hs=>by
  have hx:=hs n (by simp[Tr.flat]);have hc:=(Tr.leaf n).can hf hn;obtain⟨h0,h1,hk,hp⟩:=hf;have ho:=Ee hp;have hq:=LA n.text;rw[Lw hp h0 h1];have htb:∀r:C3,AZ r=true→(Cl r).length≤30:=λr hm=>by
   have h2:=LM hm;have h3:=(DD hm).1;rw[Cl,if_pos hm];rcases h3 with h3 | h3
   ·rw[h3] at h2;simp at h2;omega
   ·have:=(Gd h3).2.1;omega
  show _+1≤_;simp only[Tr.cnt];have:n.kind=1∨n.kind=2∨n.kind=3∨n.kind=4∨n.kind=5∨n.kind=6:=Aeb
  rcases this with h | h | h | h | h | h<;>simp only[F9,h,if_true,if_false,Int.reduceEq,Abr,decide_eq_true_eq] at ho ⊢
  ·have:=Lib.itoa_length_le n.num Aeb (hn ⟨1,[],n.num,A4,0⟩ (by simp[Tr.toks,C1,h]));omega
  ·omega
  ·split<;>simp[Dc,CL]
  ·simp[Ea]
  ·have:=htb _ ho;omega
  ·have:=htb _ ho.1;have:=htb _ ho.2.1
   simp only[Aa9,Abe,Ab3];omega
 | _,.neg a,o,hf,hn,hs=>by
  have ha:a.text.length+1≤_:=len_le a o hf (λu hu=>hn u Aev) (λn hm=>hs n Aem);show _+1≤_;rw[N9];simp only[Tr.cnt,Ip]
  split<;>simp only[Aa9,Abe,Ab3]<;>omega
 | _,.two k a b,o,hf,hn,hs=>by
  have ha:a.text.length+1≤_:=len_le a o hf.2.2.1 (λu hu=>hn u Aer) (λn hm=>hs n Aem);have hb:b.text.length+1≤_:=len_le b (o+a.cnt) hf.2.2.2 (λu hu=>hn u Aeq) (λn hm=>hs n Aem);have a0:∀s∈Bf,s.length≤2:=Aef
  have h2:=a0 _ (Jq hf.1 hf.2.1);show _+1≤_;rw[Oz];simp only[Tr.cnt,Ip]
  split<;>split<;>simp only[Aa9,Abe,Ab3]<;>omega
 | _,.call x .nil,o,hf,hn,hs=>by
  have hx:x.length≤1000:=hs {kind:=7,text:=x,kids:=Tr.nil.kids o} (by simp[Tr.flat]);show _+1≤_;rw[KS x o];simp only[Tr.cnt,Tr.row,He,Aa9,Abe,Ab3]
  omega
 | _,.call x (.snoc rs a),o,hf,hn,hs=>by
  have hx:x.length≤1000:=hs {kind:=7,text:=x,kids:=(Tr.snoc rs a).kids o} (by simp[Tr.flat]);have hr:rs.text.length+0≤_:=len_le rs o hf.2.1 (λu hu=>hn u Aek) (λn hm=>hs n Aem);have ha:a.text.length+1≤_:=len_le a (o+rs.cnt) hf.2.2 (λu hu=>hn u Aek) (λn hm=>hs n Aem);have e:(Tr.call x (.snoc rs a)).text.length=x.length+1+(rs.text.length+(a.text.length+1)):=by
   rw[OM];simp only[Aa9,Abe,Ab3];omega
  show _+1≤_;rw[e];simp only[Tr.cnt]
  omega
 | _,.nil,o,_,_,_=>by show _+0≤_;simp[Tr.text,Tr.toks]
 | _,.snoc rs a,o,hf,hn,hs=>by
  have hr:rs.text.length+0≤_:=len_le rs o hf.1 (λu hu=>hn u Aek) (λn hm=>hs n Aem);have ha:a.text.length+1≤_:=len_le a (o+rs.cnt) hf.2 (λu hu=>hn u Aek) (λn hm=>hs n Aem);have hp:=a.cnt_pos;have e:(Tr.snoc rs a).text.length=rs.text.length+a.text.length+1:=by rw[P4];simp only[Aa9,Abe,Ab3];omega
  show _+0≤_;rw[e];simp only[Tr.cnt];omega
def J1(l:List Aj):Prop:=∀t:Tr false,t.Fit→t.flat 0=l→t.Num
theorem Ym{l:List Aj}(h:∀n∈l,n.num≤9223372036854775807):J1 l:=λt hf e=>t.num_of 0 hf (by rw[e];exact h)
theorem PIs.num{s:List UInt8}{l:List Aj}{e:Int}(h:PIs s l e):J1 l:=by
 intro t hf et;rcases h with ⟨h,rfl⟩ | ⟨_,rfl,_⟩
 ·obtain⟨_,_,_,u,hu,hn,e1,_⟩:=G6 h;have:=Tr.inj t u hf hu [] [] (by simpa using et.trans e1.symm) (.inl rfl);rw[this.1];exact hn
 ·have:=t.flat_len 0;rw[et] at this;have:=t.cnt_pos;simp at *;omega
end Go.Proofs.YtcjjcnecopnpcaaGreatDoor
