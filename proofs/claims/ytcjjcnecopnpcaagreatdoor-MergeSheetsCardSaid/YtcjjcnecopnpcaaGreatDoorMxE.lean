/-
  Joined by program out of the texts Eng EngB EngC EngD EngE EngF EngG EngH EngI EngJ EngK EngL EngM EngN.
-/
import Derived.WalkKit
import Derived.Test.YtcjjcnecopnpcaaGreatDoorTy
import Derived.Deep.Quiet
import Derived.Deep.LoopGhost
import Derived.StillTail
import Derived.Orders
import Derived.WalkSmall
import Derived.Recover
import Derived.OrdersHeld
import Derived.Deep.Upon
import Derived.Laws.MakeOwn
namespace Go.E
open Go Go.RowKit
theorem AdE{p:Prop}(h:p:=by omega):p:=h
theorem AdF{p:Prop}(h:p:=by kernel_rfl):p:=h
theorem AdG{p:Prop}(h:p:=by simp;omega):p:=h
theorem AdH{p:Prop}(h:p:=by decide):p:=h
theorem AdJ{p:Prop}(h:p:=by simp only[Aad] at hm;subst hm;exact a5):p:=h
theorem AdK{p:Prop}(h:p:=by simp only[Aad] at hm;subst hm;exact a6):p:=h
theorem AdL{p:Prop}(h:p:=by exact rfl):p:=h
theorem AdM{p:Prop}(h:p:=by simp):p:=h
theorem AdN{p:Prop}(h:p:=by simp only[Tr.toks];simp[hu]):p:=h
theorem AdO{p:Prop}(h:p:=by first | omega | exact⟨by omega,by omega⟩ | exact⟨by omega,by omega,by omega⟩ | (simp<;>omega)):p:=h
theorem AdP{p:Prop}(h:p:=by simp only[Tr.flat];simp[hm]):p:=h
theorem AdQ{p:Prop}(h:p:=by rw[e1];exact(Al.cons rfl (Al.cons rfl (Al.cons rfl (Al.cons rfl (Al.cons rfl (Al.cons rfl (Al.nil)))))))):p:=h
theorem AdR{p:Prop}(h:p:=by assumption):p:=h
theorem AdS{p:Prop}(h:p:=by simp only[Tr.toks];exact AbN _ (Abj _ (Cg hu))):p:=h
theorem AdT{p:Prop}(h:p:=by simp only[Tr.toks];exact AbR _ (Cg hu)):p:=h
theorem AdU{p:Prop}(h:p:=by simpa using n12.symm):p:=h
theorem AdV{p:Prop}(h:p:=by show some (Value.pointer (some (Addr.add ⟨T,0,none⟩ (((k:Nat):Int).toNat*1))))=_;rw[Au]):p:=h
theorem AdW{p:Prop}(h:p:=by simp only[Tr.toks];exact Abj _ (Cg hu)):p:=h
theorem AdX{p:Prop}(h:p:=by show 1≤1000000;omega):p:=h
theorem AdY{p:Prop}(h:p:=by show s.deep+1≤12;omega):p:=h
theorem AdZ{p:Prop}(h:p:=by rw[ek];intro k hk;rw[Aad.1 hk,e];show(0:Int)≤9223372036854775807;decide):p:=h
theorem Aea{p:Prop}(h:p:=by cases h):p:=h
theorem Aeb{p:Prop}(h:p:=by simp only[Aaq,AaL,Abl];omega):p:=h
theorem Aec{p:Prop}(h:p:=by simpa using n12):p:=h
theorem Aed{p:Prop}(h:p:=by show some (Value.int .i64 _)=some (Value.int .i64 _);congr 2;omega):p:=h
theorem Aee{p:Prop}(h:p:=by decide +kernel):p:=h
theorem Aef{p:Prop}(h:p:=by simp;have:=ad.size;omega):p:=h
theorem Aeg{p:Prop}(h:p:=by show(nvs.length+1)*137≤140737488355328;omega):p:=h
theorem Aeh{p:Prop}(h:p:=by simpa using h2):p:=h
theorem Aei{p:Prop}(h:p:=by cases hu;exact⟨(DE hs).1,λ_=>(DE hs).2⟩):p:=h
theorem Aej{p:Prop}(h:p:=by show a.rows.length - (k+1)<a.rows.length - k;omega):p:=h
theorem Aek{p:Prop}(h:p:=by simpa using a7):p:=h
theorem Ael{p:Prop}(h:p:=by simpa using hj):p:=h
theorem Aem{p:Prop}(h:p:=by simpa using h1):p:=h
theorem Aen{p:Prop}(h:p:=by rw[a3];exact(Al.cons rfl (Al.cons rfl (Al.nil)))):p:=h
theorem Aeo{p:Prop}(h:p:=by show m.to.length - (j+1)<m.to.length - j;omega):p:=h
theorem Aep{p:Prop}(h:p:=by simpa using hi):p:=h
theorem Aeq{p:Prop}(h:p:=by simpa using a2):p:=h
theorem Aer{p:Prop}(h:p:=by simpa using hm):p:=h
theorem Aes{p:Prop}(h:p:=by have:=a0.size;omega):p:=h
theorem Aet{p:Prop}(h:p:=by simp[Ac]):p:=h
theorem Aeu{p:Prop}(h:p:=by simpa using h):p:=h
theorem Aev{p:Prop}(h:p:=by simp at hb;subst hb;exact hj):p:=h
theorem Aew{p:Prop}(h:p:=by unfold QW at h;exact h a ha):p:=h
theorem Aex{p:Prop}(h:p:=by simpa using a7.symm):p:=h
theorem Aey{p:Prop}(h:p:=by simpa using hc.new):p:=h
theorem Aez{p:Prop}(h:p:=by rw[a0];omega):p:=h
theorem Ae0{p:Prop}(h:p:=by simpa using a3):p:=h
theorem Ae1{p:Prop}(h:p:=by simpa using hk.1.1.2):p:=h
theorem Ae2{p:Prop}(h:p:=by show(_+1)*9≤_;omega):p:=h
theorem Ae3{p:Prop}(h:p:=by show C - (c+1)<C - c;omega):p:=h
theorem Ae4{p:Prop}(h:p:=by simpa using hr):p:=h
theorem Ae5{p:Prop}(h:p:=by apply_assumption;exact hj):p:=h
theorem Ae6{p:Prop}(h:p:=by show _+1≤_;rw[Aaq];omega):p:=h
theorem Ae8{p:Prop}(h:p:=by show _+1≤_;rw[A9];omega):p:=h
theorem Ae9{p:Prop}(h:p:=by simp[hx]):p:=h
theorem AeA{p:Prop}(h:p:=by rw[hd];omega):p:=h
variable {P:Program}
abbrev Aad:=@List.mem_singleton
abbrev Aap:=@List.getElem?_eq_getElem
abbrev Aaq:=@List.length_append
abbrev Aar:=@Option.some.injEq
abbrev AaF:=@List.getD_eq_getElem?_getD
abbrev AaG:=@Go.Result.andThen_ok
abbrev AaL:=@List.length_cons
abbrev AaR:=@List.append_assoc
abbrev AaT:=@List.mem_cons
abbrev AaU:=@Go.Sem.run_bind
abbrev AaY:=@Bool.and_eq_true
abbrev Abf:=@List.mem_append
abbrev Abg:=@List.getElem?_eq_some_iff
abbrev Abi:=@Nat.le_refl
abbrev Abj:=@List.mem_cons_of_mem
abbrev Abk:=@List.getElem?_append_left
abbrev Abl:=@List.length_nil
abbrev Abm:=@Option.some.inj
abbrev Abn:=@List.mem_of_getElem?
abbrev Abo:=@List.mem_cons_self
abbrev Abp:=@Go.Sem.run_pure
abbrev Abq:=@Nat.le_of_ble_eq_true
abbrev Abr:=@Nat.le_trans
abbrev Abs:=@List.getElem?_eq_none
abbrev Abt:=@List.eq_nil_of_length_eq_zero
abbrev Abu:=@List.not_mem_nil
abbrev Abv:=@Nat.lt_of_lt_of_le
abbrev Abx:=@List.getElem?_append_right
abbrev Aby:=@List.append_nil
abbrev Abz:=@Prod.mk.injEq
abbrev Ab0:=@List.map_congr_left
abbrev Ab1:=@List.getElem?_map
abbrev Ab2:=@List.findIdx?_eq_some_iff_getElem
abbrev Ab3:=@Option.map_some
abbrev Ab4:=@Nat.eq_of_beq_eq_true
abbrev Ab5:=@List.nil_append
abbrev Ab6:=@List.flatMap_cons
abbrev Ab7:=@List.take_add_one
abbrev Ab8:=@List.length_pos_iff
abbrev Ab9:=@Bool.false_eq_true
abbrev AbA:=@List.length_map
abbrev AbB:=@List.mem_range
abbrev AbC:=@Nat.zero_add
abbrev AbD:=@Nat.ble_eq_true_of_le
abbrev AbE:=@List.mem_map
abbrev AbF:=@List.flatMap_append
abbrev AbG:=@List.map_append
abbrev AbH:=@List.take_length
abbrev AbI:=@Nat.lt_or_ge
abbrev AbJ:=@List.range_succ
abbrev AbK:=@List.map_cons
abbrev AbL:=@List.getElem_mem
abbrev AbM:=@Go.Value.slice.injEq
abbrev AbN:=@List.mem_append_right
abbrev AbO:=@Go.World.block_lt_of_cell?
abbrev AbP:=@Bool.or_eq_true
abbrev AbQ:=@List.cons_append
abbrev AbR:=@List.mem_append_left
abbrev AbS:=@List.length_set
abbrev AbT:=@List.ext_getElem?
abbrev AbU:=@List.drop_eq_nil_of_le
abbrev AbV:=@List.map_map
abbrev AbW:=@List.map_toArray
abbrev AbX:=@List.getElem?_range
abbrev AbY:=@Int.toNat_of_nonneg
abbrev AbZ:=@Nat.add_zero
abbrev Aca:=@Int.eq_ofNat_of_zero_le
abbrev Acb:=@List.length_take
abbrev Acd:=@List.flatMap_singleton
abbrev Ace:=@List.drop_eq_getElem_cons
abbrev Acf:=@List.replicate_succ
abbrev Acg:=@Nat.add_mul
abbrev Ach:=@List.set_append_right
abbrev Aci:=@List.drop_drop
abbrev Acj:=@List.mem_filter
abbrev Ack:=@Option.bind_some
abbrev Acl:=@List.getElem?_of_mem
abbrev Acm:=@List.map_nil
abbrev Acn:=@Nat.zero_le
abbrev Aco:=@List.findIdx?_eq_none_iff
abbrev Acp:=@List.length_replicate
abbrev Acq:=@List.length_drop
abbrev Acr:=@Nat.mul_one
abbrev Acs:=@List.flatMap_eq_nil_iff
abbrev Acu:=@List.cons.injEq
abbrev Acv:=@Array.ext'
abbrev Acw:=@Go.Value.slice.inj
abbrev Acx:=@List.getD_cons_succ
abbrev Acy:=@List.take_of_length_le
abbrev Acz:=@Nat.sub_self
abbrev Ac0:=@Nat.add_assoc
abbrev Ac1:=@List.all_eq_true
abbrev Ac2:=@Option.getD_some
abbrev Ac3:=@Array.getElem?_eq_some_iff
abbrev Ac4:=@List.pairwise_cons
abbrev Ac5:=@Int.natCast_nonneg
abbrev Ac6:=@List.foldl_cons
abbrev Ac7:=@Nat.lt_trichotomy
abbrev Ac8:=@List.length_range
abbrev Ac9:=@List.getD_cons_zero
abbrev AcA:=@List.set_cons_zero
abbrev AcB:=@List.dropLast_concat_getLast
abbrev AcC:=@UInt8.lt_iff_toNat_lt
abbrev AcD:=@List.getElem?_toArray
abbrev AcE:=@List.singleton_append
abbrev AcF:=@List.length_mergeSort
abbrev AcG:=@Bool.not_eq_true'
abbrev AcH:=@Int.toNat_natCast
abbrev AcI:=@List.getElem?_set
abbrev AcJ:=@Nat.mul_le_mul
abbrev AcK:=@Int.le_refl
abbrev AcL:=@List.mem_iff_getElem
abbrev AcM:=@Nat.mul_le_mul_right
abbrev AcN:=@List.map_id
abbrev AcO:=@Bool.and_false
abbrev AcP:=@Bool.or_eq_false_iff
abbrev AcQ:=@List.flatMap_nil
abbrev AcR:=@List.mem_of_find?_eq_some
abbrev AcS:=@List.getElem?_take_of_lt
abbrev AcT:=@Bool.eq_iff_iff
abbrev AcU:=@List.getElem?_drop
abbrev AcV:=@List.findIdx?_cons
abbrev AcW:=@Nat.eq_zero_or_pos
abbrev AcX:=@Nat.add_sub_cancel_left
abbrev AcY:=@List.getElem?_cons_zero
abbrev AcZ:=@List.getElem?_replicate
abbrev Ada:=@List.pairwise_lt_range'
abbrev Adb:=@List.pairwise_singleton
abbrev Adc:=@List.set_eq_take_append_cons_drop
abbrev Ade:=@Nat.zero_mul
abbrev Adf:=@Array.getElem?_setIfInBounds_ne
abbrev Adg:=@Array.getElem?_modify
abbrev Adh:=@Bool.and_eq_false_iff
abbrev Adi:=@List.length_singleton
abbrev Adj:=@Nat.not_le
abbrev Adk:=@List.any_eq_true
abbrev Adl:=@List.mem_flatMap
abbrev Adm:=@List.mem_of_mem_take
abbrev Adn:=@Option.map_none
abbrev Ado:=@List.getElem_of_mem
abbrev Adp:=@List.mem_map_of_mem
abbrev Adq:=@List.map_set
abbrev Adr:=@Array.getElem?_append_left
abbrev Ads:=@List.drop_left
abbrev Adt:=@List.isPrefixOf_iff_prefix
abbrev Adu:=@Int.fdiv_eq_ediv_of_nonneg
abbrev Adv:=@Nat.add_sub_cancel
abbrev Adw:=@List.length_range'
abbrev Adx:=@Bool.false_ne_true
abbrev Ady:=@List.pairwise_iff_getElem
abbrev Adz:=@List.mapM_toArray
abbrev Ad0:=@List.size_toArray
abbrev Ad1:=@List.foldl_append
abbrev Ad2:=@Nat.le_succ
abbrev Ad3:=@List.pairwise_map
abbrev Ad4:=@List.drop_length
abbrev Ad5:=@Array.toList_map
abbrev Ad6:=@Nat.sub_zero
abbrev Ad7:=@UInt8.toNat_inj
abbrev Ad8:=@List.find?_some
abbrev Ad9:=@List.drop_left'
abbrev AdA:=@Nat.min_eq_left
abbrev AdB:=@List.take_left
abbrev AdC:=@List.mapM_cons
abbrev AdD:=@Nat.mul_add
abbrev AdI:=@List.cons.inj
abbrev BW:=List (Nat×Value)
def look:BW→Nat→Option Value
 | [],_=>none
 | (u,v)::r,t=>bif Nat.beq u t then some v else look r t
def ev(E:BW):Operand→Option Value
 | .tmp t=>look E t
 | .const v=>some v
 | .global g=>some (.pointer (some ⟨g,0,none⟩))
 | .func f=>some (.func (.func f) #[] #[])
def Sm(E:BW):List Operand→Option (List Value)
 | []=>some []
 | x::r=>match ev E x,Sm E r with
  | some v,some vs=>some (v::vs)
  | _,_=>none
structure Holds(a:Act)(D:List Deferred)(n:Nat)(E:BW):Prop where
 defers:a.defers=D
 size:a.tmps.size=n
 val:∀t v,look E t=some v→a.tmps[t]?=some v
theorem Holds.eval{a:Act}{D n E}{x:Operand}{v:Value}(h:Holds a D n E)(hx:ev E x=some v):a.eval x=v:=by
 cases x with
 | tmp t=>
  have:=h.val t v hx
  simp only[Act.eval,Array.getD_eq_getD_getElem?,this,Ac2]
 | const u=>simpa[Go.E.ev,Act.eval] using hx
 | global g=>simpa[Go.E.ev,Act.eval] using hx
 | func f=>simpa[Go.E.ev,Act.eval] using hx
theorem Holds.evals{a:Act}{D n E}(h:Holds a D n E):∀{xs:List Operand} {vs:List Value},Sm E xs=some vs→xs.map a.eval=vs
 | [],vs,hx=>by simpa[Sm] using hx
 | x::r,vs,hx=>by
  simp only[Sm] at hx
  split at hx
  ·rename_i v us h1 h2;simp only[Aar] at hx;subst hx;simp[h.eval h1,h.evals h2]
  ·simp at hx
theorem KG(d:Nat)(u:Value)(E:BW)(t:Nat):look ((d,u)::E) t=if d=t then some u else look E t:=by
 simp only[look];by_cases h:d=t
 ·subst h;simp
 ·have:Nat.beq d t=false:=by
   cases hb:Nat.beq d t
   ·rfl
   ·exact absurd (Ab4 hb) h
  simp[this,h]
theorem Holds.put{a:Act}{D n E}(h:Holds a D n E)(d:Nat)(v:Value)(hd:Nat.blt d n=true):Holds (a.put (some d) v) D n ((d,v)::E):=by
 have a1:d<n:=Abq hd;refine⟨h.defers,by simp[Act.put,h.size],λt u hu=>?_⟩;rw[KG] at hu;simp only[Act.put];by_cases a0:d=t
 ·subst a0;rw[if_pos rfl] at hu;simp only[Aar] at hu;subst hu;simp[h.size,a1]
 ·rw[if_neg a0] at hu;rw[Adf a0];exact h.val t u hu
def Al(E' E:BW):Prop:=∀t v,look E' t=some v→look E t=some v
theorem Al.nil{E:BW}:Al [] E:=λt v h=>by simp[look] at h
theorem Al.cons{E' E:BW}{t:Nat}{v:Value}(h:look E t=some v)(hs:Al E' E):Al ((t,v)::E') E:=λu x hx=>by
 rw[KG] at hx;by_cases hu:t=u
 ·subst hu;rw[if_pos rfl] at hx;rw[h,hx]
 ·rw[if_neg hu] at hx;exact hs u x hx
theorem Al.refl(E:BW):Al E E:=λ_ _ h=>h
theorem Holds.sub{a:Act}{D n E E'}(h:Holds a D n E)(hs:Al E' E):Holds a D n E':=⟨h.defers,h.size,λt v hv=>h.val t v (hs t v hv)⟩
def QW(Q:Exit→Act→World→Prop)(e:Exit)(D:List Deferred)(n:Nat)(E:BW)(w:World):Prop:=∀a,Holds a D n E→Q e a w
def CW(P:Program)(c:Code)(Q:Exit→Act→World→Prop)(D:List Deferred)(n:Nat)(E:BW)(w:World):Prop:=∀a,Holds a D n E→c.wp P Q a w
def LW(P:Program)(l:List Oper)(Q:Exit→Act→World→Prop)(rest:List Oper)(D:List Deferred)(n:Nat)(E:BW)(w:World):Prop:=∀a,Holds a D n E→wpList P l.toArray Q rest a w
section
variable {Q:Exit→Act→World→Prop} {D:List Deferred} {n:Nat} {E:BW} {w:World} {l rest:List Oper} {x y:Code} {id:Nat}
theorem LW.sub{E'}(hs:Al E' E)(h:LW P l Q rest D n E' w):LW P l Q rest D n E w:=λa ha=>h a (ha.sub hs)
theorem CW.seq(h:CW P x (Exit.then (y.wp P Q) Q) D n E w):CW P (.seq x y) Q D n E w:=λa ha=>wp_seq (h a ha)
theorem CW.region(h:LW P l Q l D n E w):CW P (.region id l.toArray false) Q D n E w:=λa ha=>wp_region_lit (h a ha)
theorem CW.skip(h:QW Q .normal D n E w):CW P .skip Q D n E w:=λa ha=>wp_skip (h a ha)
theorem CW.ret(h:QW Q .ret D n E w):CW P .ret Q D n E w:=λa ha=>wp_ret (h a ha)
theorem CW.exit(h:QW Q (.exit id) D n E w):CW P (.exit id) Q D n E w:=λa ha=>wp_exit (h a ha)
theorem CW.block(h:CW P x (Exit.inBlock id Q) D n E w):CW P (.block id x) Q D n E w:=λa ha=>wp_block (h a ha)
theorem CW.cond{c:Operand}{b:Bool}(hc:ev E c=some (.bool b))(ht:b=true→CW P x Q D n E w)(hf:b=false→CW P y Q D n E w):CW P (.cond c x y) Q D n E w:=λa ha=>by
 cases b
 ·exact wp_cond_false (ha.eval hc) (hf rfl a ha)
 ·exact wp_cond_true (ha.eval hc) (ht rfl a ha)
theorem CW.cond_t{c:Operand}(hc:ev E c=some (.bool true))(h:CW P x Q D n E w):CW P (.cond c x y) Q D n E w:=CW.cond hc (λ_=>h) (λh=>by cases h)
theorem CW.cond_f{c:Operand}(hc:ev E c=some (.bool false))(h:CW P y Q D n E w):CW P (.cond c x y) Q D n E w:=CW.cond hc (λh=>by cases h) (λ_=>h)
theorem LW.nil(h:QW Q .normal D n E w):LW P l Q [] D n E w:=λa ha=>wpList_nil (h a ha)
theorem QW.then_n{K}(h:CW P y K D n E w):QW (Exit.then (y.wp P K) Q) .normal D n E w:=h
theorem QW.then_ret{K}(h:QW Q .ret D n E w):QW (Exit.then K Q) .ret D n E w:=h
theorem QW.then_exit{K}(h:QW Q (.exit id) D n E w):QW (Exit.then K Q) (.exit id) D n E w:=h
theorem QW.then_panic{K c}(h:QW Q (.panic c) D n E w):QW (Exit.then K Q) (.panic c) D n E w:=h
theorem QW.blk_n(h:QW Q .normal D n E w):QW (Exit.inBlock id Q) .normal D n E w:=h
theorem QW.blk_ret(h:QW Q .ret D n E w):QW (Exit.inBlock id Q) .ret D n E w:=h
theorem QW.blk_panic{c}(h:QW Q (.panic c) D n E w):QW (Exit.inBlock id Q) (.panic c) D n E w:=h
theorem QW.blk_exit(h:QW Q .normal D n E w):QW (Exit.inBlock id Q) (.exit id) D n E w:=λa ha=>by
 show if id=id then _ else _;rw[if_pos rfl];exact h a ha
theorem QW.blk_other{i:Nat}(hi:Nat.beq i id=false)(h:QW Q (.exit i) D n E w):QW (Exit.inBlock id Q) (.exit i) D n E w:=λa ha=>by
 show if i=id then _ else _;rw[if_neg (by intro h;subst h;simp at hi)];exact h a ha
def ZI{ι:Type}(D:List Deferred)(n:Nat)(I:ι→World→Prop)(EI:ι→BW)(a:Act)(w:World):Prop:=∃i,I i w∧Holds a D n (EI i)
def W9{ι:Type}(D:List Deferred)(n:Nat)(I:ι→World→Prop)(EI:ι→BW)(μ:ι→Nat)(m:Nat)(a:Act)(w:World):Prop:=∃i,I i w∧Holds a D n (EI i)∧μ i<m
theorem CW.loop{ι:Type}(I:ι→World→Prop)(EI:ι→BW)(μ:ι→Nat)(i0:ι)(h0:I i0 w)(hs:Al (EI i0) E)
  (round:∀i w',I i w'→CW P x (Exit.then (W9 D n I EI μ (μ i)) Q) D n (EI i) w'):CW P (.loop x) Q D n E w:=λa ha=>by
 refine wp_loop_ghost (λm a w=>∃i,μ i=m∧I i w∧Holds a D n (EI i)) (μ i0) ⟨i0,rfl,h0,ha.sub hs⟩ ?_;rintro m a w ⟨i,rfl,hI,hH⟩;refine Code.wp_mono ?_ (round i w hI a hH);intro e a' w' hq
 cases e with
 | normal=>obtain⟨i',hI',hH',hlt⟩:=hq;exact⟨μ i',hlt,i',rfl,hI',hH'⟩
 | _=>exact hq
theorem QW.again{ι:Type}{I:ι→World→Prop}{EI:ι→BW}{μ:ι→Nat}{m:Nat}{Q:Exit→Act→World→Prop}(i:ι)(hI:I i w)(hs:Al (EI i) E)(hm:μ i<m) :
  QW (Exit.then (W9 D n I EI μ m) Q) .normal D n E w:=λ_ ha=>⟨i,hI,ha.sub hs,hm⟩
theorem CW.seq_cut{ι:Type}(I:ι→World→Prop)(EI:ι→BW)(hx:CW P x (Exit.then (ZI D n I EI) Q) D n E w)
  (hy:∀i w',I i w'→CW P y Q D n (EI i) w'):CW P (.seq x y) Q D n E w:=λa ha=>by
 refine wp_seq (Code.wp_mono ?_ (hx a ha));intro e a' w' hq
 cases e with
 | normal=>obtain⟨i,hI,hH⟩:=hq;exact hy i w' hI a' hH
 | _=>exact hq
theorem CW.cut{ι:Type}(I:ι→World→Prop)(EI:ι→BW){K:Exit→Act→World→Prop}(hx:CW P x (Exit.then (ZI D n I EI) Q) D n E w)
  (hy:∀i w',I i w'→CW P y K D n (EI i) w'):CW P x (Exit.then (y.wp P K) Q) D n E w:=λa ha=>by
 refine Code.wp_mono ?_ (hx a ha);intro e a' w' hq
 cases e with
 | normal=>obtain⟨i,hI,hH⟩:=hq;exact hy i w' hI a' hH
 | _=>exact hq
def RW(P:Program)(c:Code)(Q:Exit→Act→World→Prop)(m:Nat)(D:List Deferred)(n:Nat)(E:BW)(w:World):Prop:=∀a,Holds a D n E→Code.rounds P c Q m a w
theorem CW.rounds(m:Nat)(h:RW P x Q m D n E w):CW P (.loop x) Q D n E w:=λa ha=>wp_loop_rounds m (h a ha)
theorem RW.succ{m:Nat}(h:CW P x (Exit.then (Code.rounds P x Q m) Q) D n E w):RW P x Q (m+1) D n E w:=λa ha=>h a ha
theorem QW.round{m:Nat}{K:Exit→Act→World→Prop}(h:RW P x K m D n E w):QW (Exit.then (Code.rounds P x K m) Q) .normal D n E w:=h
theorem QW.head{ι:Type}{I:ι→World→Prop}{EI:ι→BW}{Q:Exit→Act→World→Prop}(i:ι)(hI:I i w)(hs:Al (EI i) E) :
  QW (Exit.then (ZI D n I EI) Q) .normal D n E w:=λ_ ha=>⟨i,hI,ha.sub hs⟩
end
structure Chg(S:List Nat)(w w':World):Prop where
 os:w'.os=w.os
 tape:w'.tape=w.tape
 output:w'.output=w.output
 size:w.heap.size≤w'.heap.size
 block:∀k,k<w.heap.size→k∉S→w'.heap[k]?=w.heap[k]?
abbrev Ai(w w':World):Prop:=Chg [] w w'
theorem Chg.refl(S:List Nat)(w:World):Chg S w w:=⟨rfl,rfl,rfl,Abi _,λ_ _ _=>rfl⟩
theorem Chg.trans{S S':List Nat}{a b c:World}(h:Chg S a b)(k:Chg S' b c):Chg (S++S') a c:=
 ⟨k.os.trans h.os,k.tape.trans h.tape,k.output.trans h.output,Abr h.size k.size,λi hi hn=>by
  rw[Abf,not_or] at hn;exact(k.block i (Abv hi h.size) hn.2).trans (h.block i hi hn.1)⟩
theorem Ai.trans{a b c:World}(h:Ai a b)(k:Ai b c):Ai a c:=Chg.trans h k
theorem Chg.same{S:List Nat}{a b c:World}(h:Chg S a b)(k:Chg S b c):Chg S a c:=
 ⟨k.os.trans h.os,k.tape.trans h.tape,k.output.trans h.output,Abr h.size k.size,λi hi hn=>
  (k.block i (Abv hi h.size) hn).trans (h.block i hi hn)⟩
theorem Chg.ext{S:List Nat}{a b c:World}(h:Chg S a b)(k:Ai b c):Chg S a c:=h.same ⟨k.os,k.tape,k.output,k.size,λi hi _=>k.block i hi AdM⟩
theorem Chg.mono{S S':List Nat}{a b:World}(h:Chg S a b)(hs:∀k,k∈S→k<a.heap.size→k∈S'):Chg S' a b:=
 ⟨h.os,h.tape,h.output,h.size,λi hi hn=>h.block i hi (λhm=>hn (hs i hm hi))⟩
theorem Ai.chg{S:List Nat}{a b:World}(h:Ai a b):Chg S a b:=h.mono AdM
theorem Chg.new{S:List Nat}{a b:World}(h:Chg S a b)(hs:∀k,k∈S→a.heap.size≤k):Ai a b:=h.mono (λk hk hl=>absurd (hs k hk) AdE)
theorem Chg.step{S:List Nat}{a b c:World}(h:Ai a b)(k:Chg S b c)(hs:∀k,k∈S→a.heap.size≤k):Ai a c:=(Chg.trans h k).new (by simpa using hs)
theorem Chg.below{S:List Nat}{w w':World}(h:Chg S w w'){B:Nat}(hB:B≤w.heap.size)(hs:∀k,k∈S→B≤k):Below B w w':=
 ⟨h.os,h.tape,h.output,h.size,λk hk=>h.block k AdE (λhm=>by have:=hs k hm;omega)⟩
theorem Ai.toBelow{w w':World}(h:Ai w w'):Below w.heap.size w w':=Chg.below h (Abi _) AdM
theorem Ai.of_below{w w':World}(h:Below w.heap.size w w'):Ai w w':=⟨h.os,h.tape,h.output,h.size,λk hk _=>h.block k hk⟩
theorem Ai.drew(w:World):Ai w {w with drawn:=w.drawn+1}:=⟨rfl,rfl,rfl,Abi _,λ_ _ _=>rfl⟩
theorem Ai.alloc(w:World)(o:Obj):Ai w (w.alloc o):=⟨rfl,rfl,rfl,by simp,λk hk _=>Below.heap_alloc _ _ _ hk⟩
def Blk(w:World)(b:Nat)(l:List Value)(T:TypeId):Prop:=w.heap[b]?=some (.cells ⟨l⟩ T (0,0))
theorem Blk.lt{w b l T}(h:Blk w b l T):b<w.heap.size:=(Ac3.1 h).1
theorem Blk.chg{S w w' b l T}(h:Blk w b l T)(k:Chg S w w')(hn:b∉S):Blk w' b l T:=(k.block b h.lt hn).trans h
theorem Blk.ext{w w' b l T}(h:Blk w b l T)(k:Ai w w'):Blk w' b l T:=h.chg k AdM
theorem Blk.alloc(w:World)(l:List Value)(T:TypeId):Blk (w.alloc (.cells ⟨l⟩ T)) w.heap.size l T:=by
 show(w.heap.push _)[w.heap.size]?=_;simp
theorem Blk.cell{w b l T}(h:Blk w b l T){i:Nat}{v:Value}(hi:l[i]?=some v):w.cell? ⟨b,i,none⟩=some v:=by
 unfold World.cell?;rw[show w.heap[(⟨b,i,none⟩:Addr).block]?=some (.cells ⟨l⟩ T (0,0)) from h]
 simpa using hi
theorem Blk.setRow{w b l T}(h:Blk w b l T)(l':List Value):Blk (w.setRow b ⟨l'⟩) b l' T:=setRow_heap w b ⟨l⟩ ⟨l'⟩ T (0,0) h
theorem Chg.setRow(w:World)(b:Nat)(cs:Array Value):Chg [b] w (w.setRow b cs):=⟨rfl,rfl,rfl,by simp,λk _ hn=>setRow_other w b k cs (by simpa using hn)⟩
theorem Au(b i k:Nat):(⟨b,i,none⟩:Addr).add k=⟨b,i+k,none⟩:=by unfold Addr.add;split<;>simp_all
def Be:TypeDesc→Bool
 | .struct _=>true
 | .array _ _=>true
 | _=>false
section
variable [Tab P] {t:TypeId} {r:TRow}
theorem B4(h:Tab.row P t=some r):∃d,P.underlying t=some d∧bare d=r.desc∧∀w,(underlying t).run P w=.ok d w:=by
 obtain⟨d,hd,hb,_⟩:=Tab.ok t r h;exact⟨d,hd,hb,run_underlying hd⟩
theorem Ej(h:Tab.row P t=some r)(hr:r.desc=.string)(w:World):(underlying t).run P w=.ok .string w:=by
 obtain⟨d,_,hb,hu⟩:=B4 h;cases d<;>simp[bare,hr] at hb;exact hu w
theorem AR{e:TypeId}(h:Tab.row P t=some r)(hr:r.desc=.slice e):P.underlying t=some (.slice e):=by
 obtain⟨d,hu,hb,_⟩:=B4 h;cases d<;>simp[bare,hr] at hb;rw[hu,hb]
theorem E7{k:IntKind}(h:Tab.row P t=some r)(hr:r.desc=.int k):P.underlying t=some (.int k):=by
 obtain⟨d,hu,hb,_⟩:=B4 h;cases d<;>simp[bare,hr] at hb;rw[hu,hb]
theorem Ek{fs:Array Field}(h:Tab.row P t=some r)(hr:r.desc=.struct fs):∃gs,P.underlying t=some (.struct gs)∧gs.map bareF=fs:=by
 obtain⟨d,hu,hb,_⟩:=B4 h;cases d<;>simp[bare,hr] at hb;exact⟨_,hu,hb⟩
theorem Co(h:Tab.row P t=some r)(w:World):(sizeOf t).run P w=.ok r.size w:=by
 obtain⟨_,_,_,i,hi,_,hs,_⟩:=Tab.ok t r h;simp[sizeOf,typeInfo,hi,hs]
theorem Ih(h:Tab.row P t=some r)(w:World):(zeroValue t).run P w=.ok r.zero w:=by
 obtain⟨_,_,_,i,hi,hz,_⟩:=Tab.ok t r h;simp[zeroValue,typeInfo,hi,hz]
theorem Fx(h:Tab.row P t=some r)(w:World):(isAgg t).run P w=.ok (Be r.desc) w:=by
 obtain⟨d,_,hb,hu⟩:=B4 h;unfold isAgg;rw[AaU,hu,←hb];simp only[AaG];cases d<;>rfl
def Dz(l:List Value):Nat→List Value→Prop
 | _,[]=>True
 | i,c::cs=>l[i]?=some c∧Dz l (i+1) cs
theorem Dz.get{l:List Value}:∀{i:Nat} {cs:List Value},Dz l i cs→∀j v,cs[j]?=some v→l[i+j]?=some v
 | _,[],_,j,v,h=>by simp at h
 | i,c::cs,⟨h0,h1⟩,0,v,h=>by simp at h;subst h;exact h0
 | i,c::cs,⟨h0,h1⟩,j+1,v,h=>by
  have:=h1.get j v Aeu
  rwa [show i+(j+1)=i+1+j by omega]
theorem Dz.all(l:List Value):Dz l 0 l:=by
 have:∀(k:Nat) (r:List Value),(∀j,l[k+j]?=r[j]?)→Dz l k r:=by
  intro k r
  induction r generalizing k with
  | nil=>intro _;trivial
  | cons c r ih=>
   intro h;exact⟨by simpa using h 0,ih (k+1) (λj=>by have:=h (j+1);rw[show k+1+j=k+(j+1) by omega,this];simp)⟩
 exact this 0 l AdM
theorem AX(h:Tab.row P t=some r)(hd:Be r.desc=false){w:World}{b i:Nat}{l:List Value}{T:TypeId}{v:Value}(hB:Blk w b l T)(hi:l[i]?=some v) :
  (loadVar t ⟨b,i,none⟩).run P w=.ok v w:=by
 unfold loadVar;rw[AaU,Fx h];simp[hd,hB.cell hi]
theorem C4(h:Tab.row P t=some r)(hd:Be r.desc=true){w:World}{b i:Nat}{l cs:List Value}{T:TypeId}(hB:Blk w b l T)(hs:r.size=cs.length)(hc:Dz l i cs) :
  (loadVar t ⟨b,i,none⟩).run P w=.ok (.agg ⟨cs⟩) w:=by
 unfold loadVar;rw[AaU,Fx h];simp only[hd,AaG,if_true,AaU,Co h,hs];rw[run_loadCells_list w ⟨b,i,none⟩ cs (λj v hv=>by rw[Au];exact hB.cell (hc.get j v hv))];rfl
theorem E8(h:Tab.row P t=some r){w:World}{b i:Nat}{l:List Value}{T:TypeId}{v:Value}(hB:Blk w b l T)(hs:r.size=v.cells.toList.length)(hi:i+v.cells.toList.length≤l.length)
  (h1:v.cells.toList.all (·.oneCell')=true) :
  (storeVar t ⟨b,i,none⟩ v).run P w=.ok () (w.setRow b ⟨l.take i++v.cells.toList++l.drop (i+v.cells.toList.length)⟩):=by
 unfold storeVar;rw[AaU,Co h];have a0:v.cells.size=r.size:=by rw[hs];simp
 simp only[AaG,a0,ne_eq,not_true_eq_false,if_false];have:=run_storeCells_at (P:=P) b i T v.cells.toList 0 ⟨l⟩ w hB Aep (λu hu=>by simpa using Ac1.1 h1 u hu)
 simpa using this
end
section
variable {Q:Exit→Act→World→Prop} {D:List Deferred} {n:Nat} {E:BW} {w:World} {l rest:List Oper} {x y:Code} {id:Nat}
abbrev Ao(l:List UInt8):Value:=.string ⟨⟨l⟩⟩
def Eh:IntKind→IntKind→Bool
 | .i8,.i8 | .i16,.i16 | .i32,.i32 | .i64,.i64 | .u8,.u8 | .u16,.u16 | .u32,.u32 | .u64,.u64=>true
 | _,_=>false
theorem FY{j k:IntKind}(h:Eh j k=true):j=k:=by cases j<;>cases k<;>first | rfl | cases h
def Z8(op:BinOp)(m n:Int):Option Value:=
 match op with
 | .eql=>some (.bool (decide (m=n)))
 | .neq=>some (.bool (!decide (m=n)))
 | .lss=>some (.bool (decide (m<n)))
 | .leq=>some (.bool (decide (m≤n)))
 | .gtr=>some (.bool (decide (n<m)))
 | .geq=>some (.bool (decide (n≤m)))
 | _=>none
def ZG(op:BinOp)(a b:List UInt8):Option Value:=
 match op with
 | .eql=>some (.bool (decide (a=b)))
 | .neq=>some (.bool (!decide (a=b)))
 | .lss=>some (.bool (Op.bytesLess a b))
 | .leq=>some (.bool (Op.bytesLess a b||decide (a=b)))
 | .gtr=>some (.bool (!(Op.bytesLess a b||decide (a=b))))
 | .geq=>some (.bool (!Op.bytesLess a b))
 | _=>none
def WO(op:BinOp)(a b:Bool):Option Value:=
 match op with
 | .eql=>some (.bool (decide (a=b)))
 | .neq=>some (.bool (!decide (a=b)))
 | _=>none
def Vn(P:Program)[Tab P](s f:Nat):Option Nat:=
 match Tab.row P s with
 | some r=>match r.desc with
  | .struct fs=>match fs.toList[f]? with
   | some fld=>match Tab.row P fld.type with
    | some r'=>bif Nat.beq r'.size 0 then none else some fld.offset
    | none=>none
   | none=>none
  | _=>none
 | none=>none
def Aa6(P:Program)[Tab P](t:Nat)(v:Value):Option Value:=
 match Tab.row P t,v with
 | some ⟨.string,_,_,_⟩,.string ⟨⟨a⟩⟩=>some (.int .i64 (a.length:Int))
 | some ⟨.slice _,_,_,_⟩,.slice _ k _=>some (.int .i64 (k:Int))
 | _,_=>none
def Z6(P:Program)[Tab P](t:Nat)(op:BinOp)(a b:Bool):Option Value:=
 match Tab.row P t with
 | some r=>match r.desc with
  | .bool=>WO op a b
  | _=>none
 | none=>none
def Gk(P:Program)[Tab P](E:BW):Op→Option Value
 | .move x=>ev E x
 | .assign x=>ev E x
 | .pick c a b=>match ev E c with
  | some (.bool true)=>ev E a
  | some (.bool false)=>ev E b
  | _=>none
 | .binOp op T0 x y _=>match ev E x,ev E y with
  | some (.int j m),some (.int k n)=>bif Eh j k then Z8 op m n else none
  | some (.string ⟨⟨a⟩⟩),some (.string ⟨⟨b⟩⟩)=>ZG op a b
  | some (.bool a),some (.bool b)=>Z6 P T0 op a b
  | _,_=>none
 | .unOp .not _ x=>match ev E x with
  | some (.bool b)=>some (.bool (!b))
  | _=>none
 | .extract x i=>match ev E x with
  | some (.tuple vs)=>vs.toList[i]?
  | _=>none
 | .makeFunc fn first cap=>match Sm E first.toList,Sm E cap.toList with
  | some vs,some us=>some (.func fn ⟨vs⟩ ⟨us⟩)
  | _,_=>none
 | .fieldAddr s x f=>match ev E x,Vn P s f with
  | some (.pointer (some ⟨b,i,none⟩)),some k=>some (.pointer (some ⟨b,i+k,none⟩))
  | _,_=>none
 | .nilCheck x=>match ev E x with
  | some (.pointer (some a))=>some (.pointer (some a))
  | _=>none
 | .call ⟨.builtin .len,as,ts⟩=>match Sm E as.toList,ts.toList with
  | some [v],[t]=>Aa6 P t v
  | _,_=>none
 | _=>none
theorem FS{α:Type}[BEq α][LawfulBEq α][DecidableEq α](a b:α):(a == b)=decide (a=b):=by rw[AcT];simp
theorem YC{α:Type}[BEq α][LawfulBEq α][DecidableEq α](a b:α):(a != b)=!decide (a=b):=by unfold bne;rw[FS]
theorem RL[Tab P]{t ty:TypeId}{z:Value}{s k:Nat}(hr:Tab.row P t=some ⟨.string,z,s,k⟩)(a:List UInt8):(Builtin.len_ #[t] ty #[Ao a]).run P w=.ok (.int .i64 (a.length:Int)) w:=by
 have h:(underlying t).run P w=.ok .string w:=Ej hr rfl w;simp only[Builtin.len_,AcD,AcY,AaU,h,AaG];rfl
theorem NU[Tab P]{t ty e:TypeId}{z:Value}{s k:Nat}(hr:Tab.row P t=some ⟨.slice e,z,s,k⟩)(p:Option Addr)(m c:Nat):(Builtin.len_ #[t] ty #[.slice p m c]).run P w=.ok (.int .i64 (m:Int)) w:=by
 have h:(underlying t).run P w=.ok (.slice e) w:=run_underlying (AR hr rfl) w;simp[Builtin.len_,h,goInt]
theorem TC[Tab P]{a:Act}{op:Op}{v:Value}(ha:Holds a D n E)(h:Gk P E op=some v)(dst:Option Tmp)(T:TypeId)(pos:String)(af:Array Edge)(g:Option (Nat×Bool)) :
  (execOp a.eval {dst,op,type:=T,pos,after:=af,guard:=g}).run P w=.ok (.value v) w:=by
 unfold Gk at h
 split at h
 case h_1 x=>simp[execOp,ha.eval h]
 case h_2 x=>simp[execOp,ha.eval h]
 case h_3 c x y=>
  split at h
  ·rename_i hc;simp[execOp,ha.eval hc,ha.eval h,asBool]
  ·rename_i hc;simp[execOp,ha.eval hc,ha.eval h,asBool]
  ·cases h
 case h_4 op t x y ty=>
  split at h
  ·rename_i j m k n hx hy;simp only[execOp,ha.eval hx,ha.eval hy];cases hk:Eh j k<;>simp only[hk,cond_true,cond_false,reduceCtorEq] at h;have:=FY hk;subst this;unfold Z8 at h
   split at h<;>simp only[Aar,reduceCtorEq] at h<;>subst h<;>simp[eqGuard,binOp,Op.intCmp,FS,YC]
  ·rename_i s u hx hy;simp only[execOp,ha.eval hx,ha.eval hy];unfold ZG at h
   split at h<;>simp only[Aar,reduceCtorEq] at h<;>subst h<;>simp[eqGuard,binOp,Op.stringOp,ByteArray.toList_eq,FS]
  ·rename_i s u hx hy;simp only[execOp,ha.eval hx,ha.eval hy];unfold Z6 at h
   split at h<;>try cases h
   rename_i r hr
   split at h<;>try cases h
   rename_i a2;have hu:P.underlying t=some .bool:=by
    obtain⟨dd,hu,hb,_⟩:=B4 hr;cases dd<;>simp[bare,a2] at hb;exact hu
   unfold WO at h
   split at h<;>simp only[Aar,reduceCtorEq] at h<;>subst h
   ·have:(Op.equal t (.bool s) (.bool u)).run P w=.ok (s == u) w:=run_equalIn_bool' w 9999 t s u hu;simp[eqGuard,binOp,this,FS]
   ·have:(Op.equal t (.bool s) (.bool u)).run P w=.ok (s == u) w:=run_equalIn_bool' w 9999 t s u hu;simp[eqGuard,binOp,this,FS]
  ·cases h
 case h_5 t x=>
  split at h
  ·rename_i b hx;simp only[Aar] at h;simp[execOp,ha.eval hx,Op.unary,h]
  ·cases h
 case h_6 x i=>
  split at h
  ·rename_i vs hx;have h':vs[i]?=some v:=by simpa using h
   simp[execOp,ha.eval hx,Instr.extract,h']
  ·cases h
 case h_7 fn first cap=>
  split at h
  ·rename_i vs us h1 h2;simp only[Aar] at h;have e1:=ha.evals h1;have e2:=ha.evals h2;have f1:first.map a.eval=⟨vs⟩:=by rw[←e1];simp[←Array.toList_map]
   have f2:cap.map a.eval=⟨us⟩:=by rw[←e2];simp[←Array.toList_map]
   simp[execOp,Instr.makeFunc,f1,f2,h]
  ·cases h
 case h_8 s x f=>
  split at h
  ·rename_i b i k hx hk;simp only[Aar] at h;unfold Vn at hk
   split at hk<;>try cases hk
   rename_i r hr
   split at hk<;>try cases hk
   rename_i fs a3
   split at hk<;>try cases hk
   rename_i fld a0
   split at hk<;>try cases hk
   rename_i r' a4;cases hz:Nat.beq r'.size 0<;>rw[hz] at hk<;>simp only[cond_true,cond_false,reduceCtorEq,Aar] at hk;have a5:¬r'.size=0:=λh0=>by rw[h0] at hz;cases hz
   obtain⟨gs,a6,a7⟩:=Ek hr a3;have a1:∃g,gs[f]?=some g∧bareF g=fld:=by
    rw[←a7] at a0
    simpa using a0
   obtain⟨g,a8,a9⟩:=a1;subst a9;have aa:Tab.row P g.type=some r':=a4;have ab:g.offset=k:=hk;simp only[execOp,Instr.fieldAt,ha.eval hx,AaU,run_underlying a6,AaG,a8,Instr.sureAddr,Abp,fieldPlace,Co aa,a5,if_false,Au];rw[←h,ab]
  ·cases h
 case h_9 x=>
  split at h
  ·rename_i b hx;simp only[Aar] at h;subst h;simp[execOp,ha.eval hx]
  ·cases h
 case h_10 as ts=>
  split at h
  ·rename_i v t hv ht;have e1:=ha.evals hv;obtain⟨as⟩:=as;obtain⟨ts⟩:=ts;have ac:ts=[t]:=ht;subst ac;have f1:as.map a.eval=[v]:=e1;unfold Aa6 at h
   split at h
   ·rename_i a hr;simp only[Aar] at h;subst h;simp only[execOp,resolve,AbW,f1,AaU,Abp,AaG,invoke,builtin,show(⟨[t]⟩:Array TypeId)=#[t] from rfl,RL hr]
   ·rename_i e k c hr;simp only[Aar] at h;subst h;simp only[execOp,resolve,AbW,f1,AaU,Abp,AaG,invoke,builtin,show(⟨[t]⟩:Array TypeId)=#[t] from rfl,NU hr]
   ·cases h
  ·cases h
 case h_11=>cases h
def Y(P:Program)(D:List Deferred)(n:Nat)(E:BW)(w:World)(o:Oper)(v:Value):Prop:=∀a,Holds a D n E→(execOp a.eval o).run P w=.ok (.value v) w
def QL(P:Program)(l:List Oper)(Q:Exit→Act→World→Prop)(rest:List Oper)(D:List Deferred)(n:Nat)(E:BW)(w:World):Prop:=
 ∀a,Holds a D n E→wpQuiet P l.toArray (λw'=>Ai w w') (λa'=>∀w',Ai w w'→Q .normal a' w') rest a
theorem CW.draw{t:Nat}(hm:P.follows .mixedOrders=true)(hB:Region.lexB .any l.toArray=true)(h:QL P l Q l D n E w):CW P (.region t l.toArray true) Q D n E w:=λa ha=>
 wp_region_quiet (C:=λw'=>Ai w w') hm hB (Ai.drew w) (by simpa using h a ha)
theorem QL.nil(h:∀w',Ai w w'→QW Q .normal D n E w'):QL P l Q [] D n E w:=λa ha=>wpQuiet_nil λw' hw=>h w' hw a ha
theorem QL.sub{E':BW}(hs:Al E' E)(h:QL P l Q rest D n E' w):QL P l Q rest D n E w:=λa ha=>h a (ha.sub hs)
theorem QL.yields{o:Oper}{v:Value}{d:Nat}(hg:o.guard=none)(hd:o.dst=some d)(hn:Nat.blt d n=true)(hy:∀w',Ai w w'→Y P D n E w' o v)(h:QL P l Q rest D n ((d,v)::E) w):QL P l Q (o::rest) D n E w:=λa ha=>by
 refine wpQuiet_step λK hK=>?_;rw[if_pos (by simp[Region.wanted,hg])];refine⟨v,λw' hw=>?_,hK _ (by rw[hd];exact h _ (ha.put d v hn))⟩;unfold Oper.quietAt;rw[hy w' hw a ha];exact⟨rfl,rfl⟩
theorem LW.val{o:Oper}{v:Value}{d:Nat}{w':World}(hg:o.guard=none)(hd:o.dst=some d)(hn:Nat.blt d n=true)
  (hr:∀a,Holds a D n E→(execOp a.eval o).run P w=.ok (.value v) w') (h:LW P l Q rest D n ((d,v)::E) w'):LW P l Q (o::rest) D n E w:=λa ha=>by
 refine wpList_plain hg λK hK=>?_;unfold Oper.wp;rw[hr a ha];simp only[Oper.upon,hd];exact hK _ _ (h _ (ha.put d v hn))
theorem Y.pure[Tab P]{op:Op}{v:Value}{d:Nat}{T:TypeId}{pos:String}{af:Array Edge}(hv:Gk P E op=some v):Y P D n E w ⟨some d,op,T,pos,af,none⟩ v:=
 (λ_ ha=>TC ha hv _ _ _ _ _)
theorem LW.pure[Tab P]{op:Op}{v:Value}{d:Nat}{T:TypeId}{pos:String}{af:Array Edge}(hv:Gk P E op=some v)(hn:Nat.blt d n=true)(h:LW P l Q rest D n ((d,v)::E) w):LW P l Q (⟨some d,op,T,pos,af,none⟩::rest) D n E w:=
 LW.val rfl rfl hn (Y.pure hv) h
theorem QL.pure[Tab P]{op:Op}{v:Value}{d:Nat}{T:TypeId}{pos:String}{af:Array Edge}(hv:Gk P E op=some v)(hn:Nat.blt d n=true)(h:QL P l Q rest D n ((d,v)::E) w):QL P l Q (⟨some d,op,T,pos,af,none⟩::rest) D n E w:=
 QL.yields rfl rfl hn (λ_ _=>Y.pure hv) h
def BM(l:List Oper)(j:Nat):Option Nat:=(l[j]?).bind (·.dst)
theorem Ds{a:Act}{j t:Nat}{b:Bool}(ha:Holds a D n E)(hj:BM l j=some t)(hb:look E t=some (.bool b)):yielded l.toArray a.tmps j=some b:=by
 unfold BM at hj;have:=ha.val t _ hb;simp[yielded,hj,this]
theorem LW.skip{o:Oper}{j t d:Nat}{b c:Bool}(hg:o.guard=some (j,b))(hd:o.dst=some d)(hn:Nat.blt d n=true)(hj:BM l j=some t)(hb:look E t=some (.bool c))(hne:(c == b)=false)
  (h:LW P l Q rest D n ((d,undef)::E) w):LW P l Q (o::rest) D n E w:=λa ha=>by
 have hy:=Ds (l:=l) ha hj hb;have hw:Region.wanted o (yielded l.toArray a.tmps)=false:=by
  simp only[Region.wanted,hg,hy];cases c<;>cases b<;>first | rfl | cases hne
 unfold wpList;rw[hw,if_neg AdM,hd];exact h _ (ha.put d _ hn)
theorem Gl{a:Act}{j t:Nat}(ha:Holds a D n E)(hj:BM l j=some t)(hb:look E t=some undef):yielded l.toArray a.tmps j=none:=by
 unfold BM at hj;have:=ha.val t _ hb;simp[yielded,hj,this,undef]
theorem LW.skip_u{o:Oper}{j t d:Nat}{b:Bool}(hg:o.guard=some (j,b))(hd:o.dst=some d)(hn:Nat.blt d n=true)(hj:BM l j=some t)(hb:look E t=some undef)
  (h:LW P l Q rest D n ((d,undef)::E) w):LW P l Q (o::rest) D n E w:=λa ha=>by
 have hy:=Gl (l:=l) ha hj hb;have hw:Region.wanted o (yielded l.toArray a.tmps)=false:=by
  simp only[Region.wanted,hg,hy];rfl
 unfold wpList;rw[hw,if_neg AdM,hd];exact h _ (ha.put d _ hn)
theorem QL.skip_u{o:Oper}{j t d:Nat}{b:Bool}(hg:o.guard=some (j,b))(hd:o.dst=some d)(hn:Nat.blt d n=true)(hj:BM l j=some t)(hb:look E t=some undef)
  (h:QL P l Q rest D n ((d,undef)::E) w):QL P l Q (o::rest) D n E w:=λa ha=>by
 have hy:=Gl (l:=l) ha hj hb;have hw:Region.wanted o (yielded l.toArray a.tmps)=false:=by
  simp only[Region.wanted,hg,hy];rfl
 refine wpQuiet_step λK hK=>?_;rw[hw,if_neg AdM,hd];exact hK _ (h _ (ha.put d _ hn))
theorem LW.want{op:Op}{d T pos af}{j t:Nat}{b:Bool}(hj:BM l j=some t)(hb:look E t=some (.bool b))
  (h:LW P l Q (⟨d,op,T,pos,af,none⟩::rest) D n E w):LW P l Q (⟨d,op,T,pos,af,some (j,b)⟩::rest) D n E w:=λa ha=>by
 have hy:=Ds (l:=l) ha hj hb;have hw:Region.wanted ⟨d,op,T,pos,af,some (j,b)⟩ (yielded l.toArray a.tmps)=true:=by
  simp[Region.wanted,hy]
 have h0:=h a ha;unfold wpList at h0 ⊢;rw[hw,if_pos rfl];rw[show Region.wanted ⟨d,op,T,pos,af,none⟩ (yielded l.toArray a.tmps)=true from rfl,if_pos rfl] at h0;exact h0
theorem Al.know{t:Nat}{b c:Bool}(ht:look E t=some (.bool b))(hb:b=c):Al ((t,.bool c)::E) E:=Al.cons (by rw[ht,hb]) (Al.refl E)
theorem LW.know{t:Nat}{b c:Bool}(ht:look E t=some (.bool b))(hb:b=c)(h:LW P l Q rest D n ((t,.bool c)::E) w):LW P l Q rest D n E w:=h.sub (Al.know ht hb)
theorem LW.part{o:Oper}{j t:Nat}{b c:Bool}(_hg:o.guard=some (j,b))(_hj:BM l j=some t)(ht:look E t=some (.bool c))
  (h1:c=true→LW P l Q (o::rest) D n ((t,.bool true)::E) w) (h0:c=false→LW P l Q (o::rest) D n ((t,.bool false)::E) w):LW P l Q (o::rest) D n E w:=by
 cases c
 ·exact(h0 rfl).sub (Al.know ht rfl)
 ·exact(h1 rfl).sub (Al.know ht rfl)
theorem QL.skip{o:Oper}{j t d:Nat}{b c:Bool}(hg:o.guard=some (j,b))(hd:o.dst=some d)(hn:Nat.blt d n=true)(hj:BM l j=some t)(hb:look E t=some (.bool c))(hne:(c == b)=false)
  (h:QL P l Q rest D n ((d,undef)::E) w):QL P l Q (o::rest) D n E w:=λa ha=>by
 have hy:=Ds (l:=l) ha hj hb;have hw:Region.wanted o (yielded l.toArray a.tmps)=false:=by
  simp only[Region.wanted,hg,hy];cases c<;>cases b<;>first | rfl | cases hne
 refine wpQuiet_step λK hK=>?_;rw[hw,if_neg AdM,hd];exact hK _ (h _ (ha.put d _ hn))
theorem QL.want{op:Op}{d T pos af}{j t:Nat}{b:Bool}(hj:BM l j=some t)(hb:look E t=some (.bool b))
  (h:QL P l Q (⟨d,op,T,pos,af,none⟩::rest) D n E w):QL P l Q (⟨d,op,T,pos,af,some (j,b)⟩::rest) D n E w:=λa ha=>by
 have hy:=Ds (l:=l) ha hj hb;have hw:Region.wanted ⟨d,op,T,pos,af,some (j,b)⟩ (yielded l.toArray a.tmps)=true:=by
  simp[Region.wanted,hy]
 have h0:=h a ha;unfold wpQuiet at h0 ⊢;rw[hw,if_pos rfl];rw[show Region.wanted ⟨d,op,T,pos,af,none⟩ (yielded l.toArray a.tmps)=true from rfl,if_pos rfl] at h0;exact h0
theorem QL.know{t:Nat}{b c:Bool}(ht:look E t=some (.bool b))(hb:b=c)(h:QL P l Q rest D n ((t,.bool c)::E) w):QL P l Q rest D n E w:=h.sub (Al.know ht hb)
theorem QL.part{o:Oper}{j t:Nat}{b c:Bool}(_hg:o.guard=some (j,b))(_hj:BM l j=some t)(ht:look E t=some (.bool c))
  (h1:c=true→QL P l Q (o::rest) D n ((t,.bool true)::E) w) (h0:c=false→QL P l Q (o::rest) D n ((t,.bool false)::E) w):QL P l Q (o::rest) D n E w:=by
 cases c
 ·exact(h0 rfl).sub (Al.know ht rfl)
 ·exact(h1 rfl).sub (Al.know ht rfl)
end
def RV(P:Program)(E:BW)(w:World):List ResultVar→List Value→Prop
 | [],[]=>True
 | .tmp t::rs,v::vs=>look E t=some v∧RV P E w rs vs
 | .cell t T::rs,v::vs=>(∃b,look E t=some (.pointer (some ⟨b,0,none⟩))∧(loadVar T ⟨b,0,none⟩).run P w=.ok v w)∧RV P E w rs vs
 | _,_=>False
def Kb:List Value→Value
 | [v]=>v
 | vs=>.tuple ⟨vs⟩
section
variable {Q:Exit→Act→World→Prop} {D:List Deferred} {n:Nat} {E:BW} {w:World} {l rest:List Oper} {x y:Code} {id:Nat}
theorem RV.run{a:Act}(ha:Holds a D n E):∀{rs:List ResultVar} {vs:List Value},RV P E w rs vs→
  (rs.mapM (m:=Sem) λ| .tmp t=>pure (a.tmps.getD t undef) | .cell t T=>do loadVar T (←asAddr (a.tmps.getD t undef))).run P w=.ok vs w
 | [],[],_=>by simp
 | .tmp t::rs,v::vs,⟨h1,h2⟩=>by
  have e:a.tmps.getD t undef=v:=ha.eval (x:=.tmp t) h1
  simp only[AdC,AaU,Abp,e,AaG,RV.run ha h2]
 | .cell t T::rs,v::vs,⟨⟨b,h1,h3⟩,h2⟩=>by
  have e:a.tmps.getD t undef=.pointer (some ⟨b,0,none⟩):=ha.eval (x:=.tmp t) h1;have e2:(asAddr (a.tmps.getD t undef)).run P w=.ok ⟨b,0,none⟩ w:=by rw[e];rfl
  simp only[AdC,AaU,Abp,e2,AaG,RV.run ha h2,h3]
 | [],_::_,h=>h.elim
 | .tmp _::_,[],h=>h.elim
 | .cell _ _::_,[],h=>h.elim
theorem BP{fn:Func}{a:Act}{rs:List ResultVar}{vs:List Value}(hf:fn.results=⟨rs⟩)(ha:Holds a D n E)(h:RV P E w rs vs):(results fn a.tmps).run P w=.ok (Kb vs) w:=by
 unfold results;rw[hf,AaU];have h1:=RV.run (P:=P) (w:=w) ha h;have h2:((⟨rs⟩:Array ResultVar).mapM (m:=Sem) λ| .tmp t=>pure (a.tmps.getD t undef) | .cell t T=>do loadVar T (←asAddr (a.tmps.getD t undef))).run P w=.ok ⟨vs⟩ w:=by
  rw[show(⟨rs⟩:Array ResultVar)=rs.toArray from rfl,Adz,Sem.run_map,h1];rfl
 refine Eq.trans (congrArg (λr=>Result.andThen r λ(vs:Array Value) w'=>Sem.run P (pure (if h:vs.size=1 then vs[0] else Value.tuple vs)) w') h2) ?_;rw[AaG,Abp]
 match vs with
 | []=>rfl
 | [v]=>rfl
 | _::_::_=>rfl
def FO(Φ:Value→World→Prop):Ending→World→Prop:=λe w'=>∃v,e=.returned v∧Φ v w'
theorem QW.body{fn:Func}{Φ:Value→World→Prop}{rs:List ResultVar}{vs:List Value}{v:Value}(hf:fn.results=⟨rs⟩)(hv:RV P E w rs vs)(hp:Kb vs=v)(h:Φ v w) :
  QW (bodyPost P fn (FO Φ)) .ret [] n E w:=λ_ ha=>⟨ha.defers,_,BP hf ha hv,v,by rw[hp],h⟩
theorem QW.body_n{fn:Func}{Φ:Value→World→Prop}{rs:List ResultVar}{vs:List Value}{v:Value}(hf:fn.results=⟨rs⟩)(hv:RV P E w rs vs)(hp:Kb vs=v)(h:Φ v w) :
  QW (bodyPost P fn (FO Φ)) .normal [] n E w:=λ_ ha=>⟨ha.defers,_,BP hf ha hv,v,by rw[hp],h⟩
def Cx(P:Program)(f:FuncId):Bool:=match P.funcs[f]? with
 | some fn => !(fn.name == "runtime.NumGoroutine") && !fn.body.isNone
 | none=>false
def AF(P:Program)(f:FuncId)(args:List Value)(w:World)(Φ:Value→World→Prop):Prop:=Cx P f=true∧Calls P f ⟨args⟩ w (FO Φ)
theorem AF.mono{f:FuncId}{args:List Value}{Φ Ψ:Value→World→Prop}(h:AF P f args w Φ)(hm:∀v w',Φ v w'→Ψ v w'):AF P f args w Ψ:=
 ⟨h.1,h.2.mono λ_ _ ⟨v,e,p⟩=>⟨v,e,hm _ _ p⟩⟩
def DV:Nat→List Value→BW
 | _,[]=>[]
 | i,v::r=>(i,v)::DV (i+1) r
theorem L6:∀(args:List Value) (i t:Nat) (v:Value),look (DV i args) t=some v→i≤t∧args[t - i]?=some v
 | [],_,_,_,h=>by simp[DV,look] at h
 | u::r,i,t,v,h=>by
  simp only[DV] at h;rw[KG] at h;by_cases ht:i=t
  ·subst ht;simp at h;subst h;simp
  ·rw[if_neg ht] at h;obtain⟨h1,h2⟩:=L6 r (i+1) t v h;refine⟨by omega,?_⟩;rw[show t - i=(t - (i+1))+1 by omega]
   simpa using h2
theorem DN(args:List Value)(n:Nat)(hn:args.length≤n):Holds {tmps:=(⟨args⟩:Array Value)++Array.replicate (n - (⟨args⟩:Array Value).size) undef,defers:=[]} [] n (DV 0 args):=by
 refine⟨rfl,?_,λt v h=>?_⟩
 ·simp;omega
 ·obtain⟨_,h2⟩:=L6 args 0 t v h;simp only[Ad6] at h2;have a0:t<args.length:=(Abg.1 h2).1;rw[Adr (by simpa using a0)]
  simpa using h2
theorem AF.enter{f:FuncId}{fn:Func}{c:Code}{args:List Value}{Φ:Value→World→Prop}(hf:P.funcs[f]?=some fn)(hb:fn.body=some c)(hn:fn.ntmps=n)(hc:Cx P f=true)(hl:Nat.ble args.length n=true)
  (h:CW P c (bodyPost P fn (FO Φ)) [] n (DV 0 args) w):AF P f args w Φ:=
 ⟨hc,calls_of_wp hf hb (by rw[hn];exact h _ (DN args n (Abq hl)))⟩
theorem Dy{f:FuncId}(hc:Cx P f=true)(args:Array Value)(w:World):(callFunc f args).run P w=.ok (.enter f args) w:=by
 unfold Cx at hc
 split at hc
 ·rename_i fn hf; simp only[AaY, AcG] at hc; have h1 : ¬ fn.name = "runtime.NumGoroutine" := λh => by rw[h] at hc; simp at hc
  have h2:¬fn.body=none:=λh=>by rw[h] at hc;simp at hc
  simp[callFunc,hf,h1,h2]
 ·cases hc
theorem LW.call{fop:Operand}{f:FuncId}{as:List Operand}{fs vs cs:List Value}{d:Nat}{T:TypeId}{pos:String}{af:Array Edge}{ts:Array TypeId}{Φ:Value→World→Prop}
  (hf:ev E fop=some (.func (.func f) ⟨fs⟩ ⟨cs⟩)) (ha:Sm E as=some vs) (hn:Nat.blt d n=true) (hc:AF P f (fs++(vs++cs)) w Φ)
  (h:∀v w',Φ v w'→LW P l Q rest D n ((d,v)::E) w') :
  LW P l Q (⟨some d,.call ⟨.value fop,⟨as⟩,ts⟩,T,pos,af,none⟩::rest) D n E w:=λa hh=>by
 refine wpList_plain rfl λK hK=>?_;have e1:=hh.eval hf;have e2:=hh.evals ha;unfold Oper.wp;simp only[execOp,resolve,AbW,e2,e1,Deferred.ofValue,AaU,Abp,AaG,invoke,Dy hc.1,Oper.upon];refine(show Calls P f _ w _ from ?_);have:((⟨fs⟩:Array Value)++(⟨vs⟩:Array Value)++(⟨cs⟩:Array Value))=⟨fs++(vs++cs)⟩:=AdM
 rw[this];refine hc.2.mono ?_;rintro e w' ⟨v,rfl,hv⟩;exact hK _ _ (h v w' hv _ (hh.put d v hn))
theorem LW.call0{f:FuncId}{as:List Operand}{vs:List Value}{d:Nat}{T:TypeId}{pos:String}{af:Array Edge}{ts:Array TypeId}{Φ:Value→World→Prop}
  (ha:Sm E as=some vs) (hn:Nat.blt d n=true) (hc:AF P f vs w Φ)
  (h:∀v w',Φ v w'→LW P l Q rest D n ((d,v)::E) w') :
  LW P l Q (⟨some d,.call ⟨.value (.func f),⟨as⟩,ts⟩,T,pos,af,none⟩::rest) D n E w:=
 LW.call (f:=f) (fs:=[]) (cs:=[]) rfl ha hn (by simpa using hc) h
theorem QL.call{fop:Operand}{f:FuncId}{as:List Operand}{fs vs cs:List Value}{d:Nat}{T:TypeId}{pos:String}{af:Array Edge}{ts:Array TypeId}{v:Value}
  (hf:ev E fop=some (.func (.func f) ⟨fs⟩ ⟨cs⟩)) (ha:Sm E as=some vs) (hn:Nat.blt d n=true) (hc:∀w',Ai w w'→AF P f (fs++(vs++cs)) w' (λr w''=>r=v∧Ai w' w''))
  (h:QL P l Q rest D n ((d,v)::E) w) :
  QL P l Q (⟨some d,.call ⟨.value fop,⟨as⟩,ts⟩,T,pos,af,none⟩::rest) D n E w:=λa hh=>by
 refine wpQuiet_step λK hK=>?_;rw[if_pos (by simp[Region.wanted])];refine⟨v,λw' hw=>?_,hK _ (h _ (hh.put d v hn))⟩;have e1:=hh.eval hf;have e2:=hh.evals ha;unfold Oper.quietAt;simp only[execOp,resolve,AbW,e2,e1,Deferred.ofValue,AaU,Abp,AaG,invoke,Dy (hc w' hw).1,Oper.quietUpon];refine⟨trivial,?_⟩;have:((⟨fs⟩:Array Value)++(⟨vs⟩:Array Value)++(⟨cs⟩:Array Value))=⟨fs++(vs++cs)⟩:=AdM
 rw[this];refine(hc w' hw).2.mono ?_;rintro e w'' ⟨r,rfl,rfl,hx⟩;exact⟨rfl,hw.trans hx⟩
theorem QL.call0{f:FuncId}{as:List Operand}{vs:List Value}{d:Nat}{T:TypeId}{pos:String}{af:Array Edge}{ts:Array TypeId}{v:Value}
  (ha:Sm E as=some vs) (hn:Nat.blt d n=true) (hc:∀w',Ai w w'→AF P f vs w' (λr w''=>r=v∧Ai w' w''))
  (h:QL P l Q rest D n ((d,v)::E) w) :
  QL P l Q (⟨some d,.call ⟨.value (.func f),⟨as⟩,ts⟩,T,pos,af,none⟩::rest) D n E w:=
 QL.call (f:=f) (fs:=[]) (cs:=[]) rfl ha hn (by simpa using hc) h
theorem QW.body1{fn:Func}{Φ:Value→World→Prop}{s:Nat}{v:Value}(hf:fn.results=#[.tmp s])(hv:look E s=some v)(h:Φ v w) :
  QW (bodyPost P fn (FO Φ)) .ret [] n E w:=QW.body (rs:=[.tmp s]) (vs:=[v]) hf ⟨hv,trivial⟩ rfl h
theorem QW.body2{fn:Func}{Φ:Value→World→Prop}{s u:Nat}{v x:Value}(hf:fn.results=#[.tmp s,.tmp u])(hv:look E s=some v)(hx:look E u=some x)(h:Φ (.tuple #[v,x]) w) :
  QW (bodyPost P fn (FO Φ)) .ret [] n E w:=QW.body (rs:=[.tmp s,.tmp u]) (vs:=[v,x]) hf ⟨hv,hx,trivial⟩ rfl h
theorem QW.body3{fn:Func}{Φ:Value→World→Prop}{s u z:Nat}{v x y:Value}(hf:fn.results=#[.tmp s,.tmp u,.tmp z])(hv:look E s=some v)(hx:look E u=some x)(hy:look E z=some y)(h:Φ (.tuple #[v,x,y]) w) :
  QW (bodyPost P fn (FO Φ)) .ret [] n E w:=QW.body (rs:=[.tmp s,.tmp u,.tmp z]) (vs:=[v,x,y]) hf ⟨hv,hx,hy,trivial⟩ rfl h
theorem Y2{z:Int}(h1:-9223372036854775808≤z)(h2:z≤9223372036854775807):IntKind.i64.wrap z=z:=IntWalk.i64_in z ⟨h1,h2⟩
theorem Kj{a:Act}{op:BinOp}{t ty:TypeId}{x y:Operand}{k:IntKind}{p q:Int}(ha:Holds a D n E)(hx:ev E x=some (.int k p))(hy:ev E y=some (.int k q))(hop:(match op with | .eql | .neq=>false | _=>true)=true)(dst:Option Tmp)(T:TypeId)(pos:String)(af:Array Edge)(g:Option (Nat×Bool)) :
  (execOp a.eval {dst,op:=.binOp op t x y ty,type:=T,pos,after:=af,guard:=g}).run P w=((binOp op t (.int k p) (.int k q)).run P w).andThen λv w=>.ok (.value v) w:=by
 simp only[execOp,ha.eval hx,ha.eval hy,AaU];have:(eqGuard op t x y (.int k p) (.int k q)).run P w=.ok () w:=by cases op<;>first | rfl | cases hop
 simp[this]
section
variable {x y:Operand} {k:IntKind} {p q:Int} {d:Nat} {t ty T:TypeId} {pos:String} {af:Array Edge}
theorem Y.rem(hx:ev E x=some (.int k p))(hy:ev E y=some (.int k q))(h0:0≤p)(hq:1≤q):Y P D n E w ⟨some d,.binOp .rem t x y ty,T,pos,af,none⟩ (.int k (p % q)):=
 (λ_ ha=>by
  rw[Kj ha hx hy rfl];have hq':¬q=0:=AdE
  have e:p.tmod q=p % q:=Int.tmod_eq_emod_of_nonneg h0;simp[binOp,Op.intDiv,hq',e])
theorem Y.arith{op:BinOp}(hx:ev E x=some (.int k p))(hy:ev E y=some (.int k q)){r:Int}(hr:(match op with | .add=>k.wrap (p+q) | .sub=>k.wrap (p - q) | .mul=>k.wrap (p*q) | _=>0)=r)(ho:(match op with | .add | .sub | .mul=>true | _=>false)=true):Y P D n E w ⟨some d,.binOp op t x y ty,T,pos,af,none⟩ (.int k r):=
 (λ_ ha=>by
  rw[Kj ha hx hy (by cases op<;>first | rfl | cases ho)];cases op<;>first | (simp only at hr;subst hr;simp[binOp,Op.intArith];done) | (simp at ho;done))
theorem LW.arith{op:BinOp}(hx:ev E x=some (.int k p))(hy:ev E y=some (.int k q)){r:Int}(hr:(match op with | .add=>k.wrap (p+q) | .sub=>k.wrap (p - q) | .mul=>k.wrap (p*q) | _=>0)=r)(ho:(match op with | .add | .sub | .mul=>true | _=>false)=true)(hn:Nat.blt d n=true)(h:LW P l Q rest D n ((d,.int k r)::E) w):LW P l Q (⟨some d,.binOp op t x y ty,T,pos,af,none⟩::rest) D n E w:=
 LW.val rfl rfl hn (Y.arith hx hy hr ho) h
theorem Zv{k:IntKind}{z:Int}(h1:k.min≤z)(h2:z≤k.max):k.wrap z=z:=by
 cases k<;>simp[IntKind.min,IntKind.max,IntKind.wrap,IntKind.bits,IntKind.signed] at *<;>omega
theorem Y.conv[Tab P]{j:IntKind}{s:TypeId}{r r':TRow}(hx:ev E x=some (.int j p))(hs:Tab.row P s=some r)(hsd:r.desc=.int j)(ht:Tab.row P t=some r')(htd:r'.desc=.int k){z:Int}(hz:k.wrap p=z):Y P D n E w ⟨some d,.convert s t x,T,pos,af,none⟩ (.int k z):=
 (λ_ ha=>by
  simp only[execOp,ha.eval hx,convert,AaU,run_underlying (E7 hs hsd),run_underlying (E7 ht htd),AaG,Conv.intToInt,Abp,hz])
theorem LW.conv[Tab P]{j:IntKind}{s:TypeId}{r r':TRow}(hx:ev E x=some (.int j p))(hs:Tab.row P s=some r)(hsd:r.desc=.int j)(ht:Tab.row P t=some r')(htd:r'.desc=.int k){z:Int}(hz:k.wrap p=z)(hn:Nat.blt d n=true)(h:LW P l Q rest D n ((d,.int k z)::E) w):LW P l Q (⟨some d,.convert s t x,T,pos,af,none⟩::rest) D n E w:=
 LW.val rfl rfl hn (Y.conv hx hs hsd ht htd hz) h
end
section
variable {x:Operand} {k:IntKind} {p q:Int} {d:Nat} {s t T:TypeId} {pos:String} {af:Array Edge} {r r':TRow} [Tab P] {j:IntKind}
theorem Y.chr(hx:ev E x=some (.int k p))(ht:Tab.row P t=some r')(htd:r'.desc=.string)(hs:Tab.row P s=some r)(hsd:r.desc=.int k)(h1:0≤p)(h2:p<128)(dst:Option Tmp) :
  Y P D n E w {dst,op:=.convert s t x,type:=T,pos,after:=af,guard:=none} (Ao [UInt8.ofNat p.toNat]):=λa ha=>by
 have hu:=E7 hs hsd;have he:Utf8.encode p=⟨⟨[UInt8.ofNat p.toNat]⟩⟩:=by
  have hv:Utf8.valid p=true:=by simp[Utf8.valid];omega
  have a0:p.toNat<0x80:=AdE
  simp[Utf8.encode,hv,a0]
 simp only[execOp,ha.eval hx,convert,AaU,run_underlying hu,Ej ht htd,AaG,Conv.intToString,Abp,he]
end
def Aj(l:List UInt8)(i:Nat):Int:=((l.getD i 0).toNat:Int)
theorem GM(l:List UInt8)(i:Nat):0≤Aj l i∧Aj l i<256:=by
 have:=(l.getD i 0).toNat_lt;unfold Aj;omega
theorem DW{l:List UInt8}{i:Nat}(h:i<l.length):Aj l i=(l[i].toNat:Int):=by unfold Aj;rw[AaF,Aap h];rfl
section
variable [Tab P] {x y:Operand} {d:Nat} {t ty T:TypeId} {pos:String} {af:Array Edge} {s u:List UInt8} {r:TRow}
theorem Y.index{k:IntKind}{i:Int}(hx:ev E x=some (Ao s))(hi:ev E y=some (.int k i))(ht:Tab.row P t=some r)(hr:r.desc=.string)(h0:0≤i)(h1:i<s.length):Y P D n E w ⟨some d,.index t x y,T,pos,af,none⟩ (.int .u8 (Aj s i.toNat)):=
 (λ_ ha=>by
  have hlt:i.toNat<s.length:=AdE
  have hg:(⟨⟨s⟩⟩:ByteArray)[i.toNat]?=some s[i.toNat]:=by
   rw[getElem?_pos (⟨⟨s⟩⟩:ByteArray) i.toNat (show i.toNat<s.length from hlt)];rfl
  simp only[execOp,ha.eval hx,ha.eval hi,Instr.index,asIntOf,AaU,Abp,AaG,Ej ht hr,h0,if_true,hg,DW hlt])
omit [Tab P] in
theorem Y.cat(hx:ev E x=some (Ao s))(hy:ev E y=some (Ao u))(hl:s.length+u.length≤9223372036854775807):Y P D n E w ⟨some d,.binOp .add t x y ty,T,pos,af,none⟩ (Ao (s++u)):=
 (λ_ ha=>by
  have e:(⟨⟨s⟩⟩:ByteArray)++(⟨⟨u⟩⟩:ByteArray)=⟨⟨s++u⟩⟩:=by apply ByteArray.ext;simp
  have hm:¬(((⟨⟨s⟩⟩:ByteArray).size+(⟨⟨u⟩⟩:ByteArray).size:Nat):Int) > IntKind.i64.max:=by
   show ¬((s.length+u.length:Nat):Int) > _;simp[IntKind.max,IntKind.signed,IntKind.bits];omega
  simp only[execOp,ha.eval hx,ha.eval hy,AaU,eqGuard,binOp,Op.stringOp];simp only[hm,if_false,e];rfl)
def cut(s:List UInt8)(i j:Nat):List UInt8:=(s.drop i).take (j - i)
theorem QA(s:List UInt8)(i j:Nat):(⟨⟨s⟩⟩:ByteArray).extract i j=⟨⟨cut s i j⟩⟩:=by
 apply ByteArray.ext;simp[cut]
theorem Y.slice_str{lo hi:Option Operand}{i j:Nat}(hx:ev E x=some (Ao s))(ht:Tab.row P t=some r)(hr:r.desc=.string)
  (hlo:(match lo with | none=>(0:Int)=(i:Int) | some a=>∃k z,ev E a=some (.int k z)∧z=(i:Int))) (hhi:(match hi with | none=>(s.length:Int)=(j:Int) | some a=>∃k z,ev E a=some (.int k z)∧z=(j:Int))) (h1:i≤j) (h2:j≤s.length):Y P D n E w ⟨some d,.slice t x lo hi none,T,pos,af,none⟩ (Ao (cut s i j)):=
 (λa ha=>by
  have b1:∀(k:IntKind) (i y:Nat) (code:BoundsCode),i≤y→(Instr.sliceBound (.int k (i:Int)) y code).run P w=.ok i w:=λk i y code h=>by
   simp[Instr.sliceBound,asIntOf,h]
  have hb:(Instr.sliceBounds false (⟨⟨s⟩⟩:ByteArray).size (⟨⟨s⟩⟩:ByteArray).size (lo.map a.eval) (hi.map a.eval) none).run P w=.ok (i,j,s.length) w:=by
   have hs:(⟨⟨s⟩⟩:ByteArray).size=s.length:=rfl;unfold Instr.sliceBounds
   cases lo with
   | none=>
    cases hi with
    | none=>
     simp only at hlo hhi;have:i=0:=AdE
     have:j=s.length:=AdE
     subst i;subst j
     simp[hs]
    | some c=>
     obtain⟨k,z,e1,e2⟩:=hhi;subst e2;simp only at hlo;have:i=0:=AdE
     subst i
     simp[ha.eval e1,b1 k j s.length _ h2,hs]
   | some b=>
    obtain⟨k',z',a0,a1⟩:=hlo;subst a1
    cases hi with
    | none=>
     simp only at hhi;have:j=s.length:=AdE
     subst j
     simp[ha.eval a0,b1 k' i s.length _ h1,hs]
    | some c=>
     obtain⟨k,z,e1,e2⟩:=hhi;subst e2;simp[ha.eval e1,ha.eval a0,b1 k j s.length _ h2,b1 k' i j _ h1,hs]
  have a2:(Instr.slice t (Ao s) (lo.map a.eval) (hi.map a.eval) none).run P w=.ok (Ao (cut s i j)) w:=by
   unfold Instr.slice;rw[AaU,Ej ht hr];simp only[AaG];simp[hb,QA]
  have a3:(Instr.sliceAt t (Ao s) (lo.map a.eval) (hi.map a.eval) none).run P w=.ok (Ao (cut s i j)) w:=by
   unfold Instr.sliceAt;rw[AaU,Ej ht hr];simp only[AaG];exact a2
  simp only[execOp,ha.eval hx,Adn,AaU,a3,AaG,Abp])
theorem LW.slice_str{lo hi:Option Operand}{i j:Nat}(hx:ev E x=some (Ao s))(ht:Tab.row P t=some r)(hr:r.desc=.string)
  (hlo:(match lo with | none=>(0:Int)=(i:Int) | some a=>∃k z,ev E a=some (.int k z)∧z=(i:Int))) (hhi:(match hi with | none=>(s.length:Int)=(j:Int) | some a=>∃k z,ev E a=some (.int k z)∧z=(j:Int))) (h1:i≤j) (h2:j≤s.length) (hn:Nat.blt d n=true) (h:LW P l Q rest D n ((d,Ao (cut s i j))::E) w):LW P l Q (⟨some d,.slice t x lo hi none,T,pos,af,none⟩::rest) D n E w:=
 LW.val rfl rfl hn (Y.slice_str hx ht hr hlo hhi h1 h2) h
theorem QL.slice_str{lo hi:Option Operand}{i j:Nat}(hx:ev E x=some (Ao s))(ht:Tab.row P t=some r)(hr:r.desc=.string)
  (hlo:(match lo with | none=>(0:Int)=(i:Int) | some a=>∃k z,ev E a=some (.int k z)∧z=(i:Int))) (hhi:(match hi with | none=>(s.length:Int)=(j:Int) | some a=>∃k z,ev E a=some (.int k z)∧z=(j:Int))) (h1:i≤j) (h2:j≤s.length) (hn:Nat.blt d n=true) (h:QL P l Q rest D n ((d,Ao (cut s i j))::E) w):QL P l Q (⟨some d,.slice t x lo hi none,T,pos,af,none⟩::rest) D n E w:=
 QL.yields rfl rfl hn (λ_ _=>Y.slice_str hx ht hr hlo hhi h1 h2) h
end
theorem LW.unit{o:Oper}{w':World}(hg:o.guard=none)(hd:o.dst=none)
  (hr:∀a,Holds a D n E→(execOp a.eval o).run P w=.ok .skip w') (h:LW P l Q rest D n E w'):LW P l Q (o::rest) D n E w:=λa ha=>by
 refine wpList_plain hg λK hK=>?_;unfold Oper.wp;rw[hr a ha];simp only[Oper.upon,hd];exact hK _ _ (h _ ha)
section
variable [Tab P] {x y:Operand} {d b i:Nat} {t T T':TypeId} {pos:String} {af:Array Edge} {L cs:List Value} {v:Value} {r:TRow}
theorem Y.load(hx:ev E x=some (.pointer (some ⟨b,i,none⟩)))(hB:Blk w b L T')(hi:L[i]?=some v)(ht:Tab.row P t=some r)(hr:Be r.desc=false):Y P D n E w ⟨some d,.load t x,T,pos,af,none⟩ v:=
 (λ_ ha=>by
  simp only[execOp,ha.eval hx,Instr.loadAt,Instr.sureAddr,AaU,Abp,AaG,AX ht hr hB hi])
theorem LW.load(hx:ev E x=some (.pointer (some ⟨b,i,none⟩)))(hB:Blk w b L T')(hi:L[i]?=some v)(ht:Tab.row P t=some r)(hr:Be r.desc=false)(hn:Nat.blt d n=true)(h:LW P l Q rest D n ((d,v)::E) w):LW P l Q (⟨some d,.load t x,T,pos,af,none⟩::rest) D n E w:=
 LW.val rfl rfl hn (Y.load hx hB hi ht hr) h
theorem QL.load(hx:ev E x=some (.pointer (some ⟨b,i,none⟩)))(hB:Blk w b L T')(hi:L[i]?=some v)(ht:Tab.row P t=some r)(hr:Be r.desc=false)(hn:Nat.blt d n=true)(h:QL P l Q rest D n ((d,v)::E) w):QL P l Q (⟨some d,.load t x,T,pos,af,none⟩::rest) D n E w:=
 QL.yields rfl rfl hn (λ_ hw=>Y.load hx (hB.ext hw) hi ht hr) h
theorem Y.load_agg(hx:ev E x=some (.pointer (some ⟨b,i,none⟩)))(hB:Blk w b L T')(ht:Tab.row P t=some r)(hr:Be r.desc=true)(hs:r.size=cs.length)(hc:Dz L i cs):Y P D n E w ⟨some d,.load t x,T,pos,af,none⟩ (.agg ⟨cs⟩):=
 (λ_ ha=>by
  simp only[execOp,ha.eval hx,Instr.loadAt,Instr.sureAddr,AaU,Abp,AaG,C4 ht hr hB hs hc])
theorem LW.load_agg(hx:ev E x=some (.pointer (some ⟨b,i,none⟩)))(hB:Blk w b L T')(ht:Tab.row P t=some r)(hr:Be r.desc=true)(hs:r.size=cs.length)(hc:Dz L i cs)(hn:Nat.blt d n=true)(h:LW P l Q rest D n ((d,.agg ⟨cs⟩)::E) w):LW P l Q (⟨some d,.load t x,T,pos,af,none⟩::rest) D n E w:=
 LW.val rfl rfl hn (Y.load_agg hx hB ht hr hs hc) h
theorem Y.load_all(hx:ev E x=some (.pointer (some ⟨b,0,none⟩)))(hB:Blk w b L T')(ht:Tab.row P t=some r)(hr:Be r.desc=true)(hs:Nat.beq r.size L.length=true):Y P D n E w ⟨some d,.load t x,T,pos,af,none⟩ (.agg ⟨L⟩):=
 Y.load_agg hx hB ht hr (Ab4 hs) (Dz.all L)
theorem LW.load_all(hx:ev E x=some (.pointer (some ⟨b,0,none⟩)))(hB:Blk w b L T')(ht:Tab.row P t=some r)(hr:Be r.desc=true)(hs:Nat.beq r.size L.length=true)(hn:Nat.blt d n=true)(h:LW P l Q rest D n ((d,.agg ⟨L⟩)::E) w):LW P l Q (⟨some d,.load t x,T,pos,af,none⟩::rest) D n E w:=
 LW.val rfl rfl hn (Y.load_all hx hB ht hr hs) h
theorem QL.load_all(hx:ev E x=some (.pointer (some ⟨b,0,none⟩)))(hB:Blk w b L T')(ht:Tab.row P t=some r)(hr:Be r.desc=true)(hs:Nat.beq r.size L.length=true)(hn:Nat.blt d n=true)(h:QL P l Q rest D n ((d,.agg ⟨L⟩)::E) w):QL P l Q (⟨some d,.load t x,T,pos,af,none⟩::rest) D n E w:=
 QL.yields rfl rfl hn (λ_ hw=>Y.load_all hx (hB.ext hw) ht hr hs) h
theorem LW.store(hx:ev E x=some (.pointer (some ⟨b,i,none⟩)))(hy:ev E y=some v)(h1:v.oneCell'=true)(hB:Blk w b L T')(hi:Nat.blt i L.length=true)(ht:Tab.row P t=some r)(hs:Nat.beq r.size 1=true)
  (h:∀w',Chg [b] w w'→Blk w' b (L.set i v) T'→LW P l Q rest D n E w'):LW P l Q (⟨none,.store t x y,T,pos,af,none⟩::rest) D n E w:=by
 have a1:i<L.length:=Abq hi;have hc:v.cells.toList=[v]:=by cases v<;>first | rfl | cases h1
 have a0:=E8 (P:=P) ht (w:=w) (b:=b) (i:=i) (v:=v) hB (by rw[hc];exact Ab4 hs) (by rw[hc];simp;omega) (by rw[hc];simpa using h1);rw[hc] at a0;have he:L.take i++[v]++L.drop (i+[v].length)=L.set i v:=by
  rw[Adc,if_pos a1];simp
 rw[he] at a0;exact LW.unit rfl rfl (λ_ ha=>by
  simp only[execOp,ha.eval hx,ha.eval hy,Instr.storeAt,Instr.sureAddr,AaU,Abp,AaG,a0]) (h _ (Chg.setRow ..) (hB.setRow _))
theorem LW.store_all(hx:ev E x=some (.pointer (some ⟨b,0,none⟩)))(hy:ev E y=some (.agg ⟨cs⟩))(h1:cs.all (·.oneCell')=true)(hB:Blk w b L T')(hi:Nat.beq cs.length L.length=true)(ht:Tab.row P t=some r)(hs:Nat.beq r.size cs.length=true)
  (h:∀w',Chg [b] w w'→Blk w' b cs T'→LW P l Q rest D n E w'):LW P l Q (⟨none,.store t x y,T,pos,af,none⟩::rest) D n E w:=by
 have a0:cs.length=L.length:=Ab4 hi;have a1:=E8 (P:=P) ht (w:=w) (b:=b) (i:=0) (v:=.agg ⟨cs⟩) hB (Ab4 hs) (by simp[Value.cells,a0]) h1;have he:L.take 0++(Value.agg ⟨cs⟩).cells.toList++L.drop (0+(Value.agg ⟨cs⟩).cells.toList.length)=cs:=by simp[Value.cells,a0]
 rw[he] at a1;exact LW.unit rfl rfl (λ_ ha=>by
  simp only[execOp,ha.eval hx,ha.eval hy,Instr.storeAt,Instr.sureAddr,AaU,Abp,AaG,a1]) (h _ (Chg.setRow ..) (hB.setRow _))
theorem LW.store_agg(hx:ev E x=some (.pointer (some ⟨b,i,none⟩)))(hy:ev E y=some (.agg ⟨cs⟩))(h1:cs.all (·.oneCell')=true)(hB:Blk w b L T')(hi:i+cs.length≤L.length)(ht:Tab.row P t=some r)(hs:Nat.beq r.size cs.length=true)
  (h:∀w',Chg [b] w w'→Blk w' b (L.take i++cs++L.drop (i+cs.length)) T'→LW P l Q rest D n E w'):LW P l Q (⟨none,.store t x y,T,pos,af,none⟩::rest) D n E w:=by
 have a0:=E8 (P:=P) ht (w:=w) (b:=b) (i:=i) (v:=.agg ⟨cs⟩) hB (Ab4 hs) hi h1;exact LW.unit rfl rfl (λ_ ha=>by
  simp only[execOp,ha.eval hx,ha.eval hy,Instr.storeAt,Instr.sureAddr,AaU,Abp,AaG,a0];rfl) (h _ (Chg.setRow ..) (hB.setRow _))
theorem LW.alloc(ht:Tab.row P t=some r)(hz:r.zero.cells.toList=cs)(hn:Nat.blt d n=true)
  (h:∀b w',b=w.heap.size→Ai w w'→Blk w' b cs t→LW P l Q rest D n ((d,.pointer (some ⟨b,0,none⟩))::E) w'):LW P l Q (⟨some d,.alloc t,T,pos,af,none⟩::rest) D n E w:=
 LW.val (w':=w.alloc (.cells ⟨cs⟩ t)) rfl rfl hn (λ_ _=>by
  subst hz;simp only[execOp,Instr.alloc,AaU,AaG,Ih ht];rfl) (h _ _ rfl (Ai.alloc ..) (Blk.alloc ..))
omit [Tab P] in
theorem LW.box(hx:ev E x=some v)(hz:v.cells.toList=cs)(hn:Nat.blt d n=true)
  (h:∀b w',b=w.heap.size→Ai w w'→Blk w' b cs t→LW P l Q rest D n ((d,.pointer (some ⟨b,0,none⟩))::E) w'):LW P l Q (⟨some d,.box t x,T,pos,af,none⟩::rest) D n E w:=
 LW.val (w':=w.alloc (.cells ⟨cs⟩ t)) rfl rfl hn (λ_ ha=>by
  subst hz;simp only[execOp,ha.eval hx,Instr.box,AaU];rfl) (h _ _ rfl (Ai.alloc ..) (Blk.alloc ..))
theorem QW.body_ct{fn:Func}{Φ:Value→World→Prop}{s u:Nat}{v:Value}(hf:fn.results=#[.cell s t,.tmp u])(hs:look E s=some (.pointer (some ⟨b,0,none⟩)))(hB:Blk w b L T')(ht:Tab.row P t=some r)(hr:Be r.desc=true)(hz:Nat.beq r.size L.length=true)
  (hu:look E u=some v) (h:Φ (.tuple #[.agg ⟨L⟩,v]) w):QW (bodyPost P fn (FO Φ)) .ret [] n E w:=
 QW.body (rs:=[.cell s t,.tmp u]) (vs:=[.agg ⟨L⟩,v]) hf ⟨⟨b,hs,C4 ht hr hB (Ab4 hz) (Dz.all L)⟩,hu,trivial⟩ rfl h
theorem QW.body_c{fn:Func}{Φ:Value→World→Prop}{s:Nat}(hf:fn.results=#[.cell s t])(hs:look E s=some (.pointer (some ⟨b,0,none⟩)))(hB:Blk w b L T')(ht:Tab.row P t=some r)(hr:Be r.desc=true)(hz:Nat.beq r.size L.length=true)
  (h:Φ (.agg ⟨L⟩) w):QW (bodyPost P fn (FO Φ)) .ret [] n E w:=
 QW.body (rs:=[.cell s t]) (vs:=[.agg ⟨L⟩]) hf ⟨⟨b,hs,C4 ht hr hB (Ab4 hz) (Dz.all L)⟩,trivial⟩ rfl h
end
def FD(P:Program)[Tab P]:List Field→Option (List (Nat×Nat))
 | []=>some []
 | f::fs=>match Tab.row P f.type,FD P fs with
  | some r,some ps=>some ((f.offset,r.size)::ps)
  | _,_=>none
def EW(L:List Value)(off:Nat):List Value→List Value
 | []=>L
 | c::cs=>EW (L.set off c) (off+1) cs
def QB(ps:List (Nat×Nat))(L:List Value):List (Nat×Value)→Option (List Value)
 | []=>some L
 | (i,v)::rest=>match ps[i]? with
  | some (off,size)=>bif (Nat.beq v.cells.toList.length size&&Nat.ble (off+v.cells.toList.length) L.length) then QB ps (EW L off v.cells.toList) rest else none
  | none=>none
def Mt(P:Program)[Tab P](t:Nat)(vs:List (Nat×Value)):Option (List Value):=
 match Tab.row P t with
 | some r=>match r.desc with
  | .struct fs=>match FD P fs.toList with
   | some ps=>QB ps r.zero.cells.toList vs
   | none=>none
  | _=>none
 | none=>none
def evp(E:BW):List (Nat×Operand)→Option (List (Nat×Value))
 | []=>some []
 | (i,x)::r=>match ev E x,evp E r with
  | some v,some vs=>some ((i,v)::vs)
  | _,_=>none
theorem Holds.evp{a:Act}(h:Holds a D n E):∀{xs:List (Nat×Operand)} {vs:List (Nat×Value)},Go.E.evp E xs=some vs→xs.map (λp=>(p.1,a.eval p.2))=vs
 | [],vs,hx=>by simpa[Go.E.evp] using hx
 | (i,x)::r,vs,hx=>by
  simp only[Go.E.evp] at hx
  split at hx
  ·rename_i v us h1 h2;simp only[Aar] at hx;subst hx;simp[h.eval h1,h.evp h2]
  ·simp at hx
theorem Oo(cs:List Value):∀(L:List Value) (off k:Nat),((cs.zipIdx k).foldl (λ(A:Array Value) (x:Value×Nat)=>A.setIfInBounds (off+x.2) x.1) ⟨L⟩)=⟨EW L (off+k) cs⟩:=by
 induction cs with
 | nil=>intro L off k;rfl
 | cons c cs ih=>
  intro L off k;simp only[List.zipIdx_cons,Ac6,EW];have:(⟨L⟩:Array Value).setIfInBounds (off+k) c=⟨L.set (off+k) c⟩:=by
   apply Acv;simp
  rw[this,ih];rfl
theorem Pn(ps:List (Nat×Nat)):∀(vs:List (Nat×Value)) (L:List Value) {cs:List Value},QB ps L vs=some cs→Instr.fill ((⟨ps⟩:Array (Nat×Nat))[·]?) ⟨L⟩ vs=some ⟨cs⟩
 | [],L,cs,h=>by simp only[QB,Aar] at h;subst h;rfl
 | (i,v)::rest,L,cs,h=>by
  simp only[QB] at h
  split at h
  ·rename_i off size hi;cases hb:(Nat.beq v.cells.toList.length size&&Nat.ble (off+v.cells.toList.length) L.length)<;>rw[hb] at h
   ·simp at h
   ·simp only[cond_true] at h;simp only[AaY] at hb;have h1:v.cells.size=size:=by simpa using Ab4 hb.1
    have h2:off+v.cells.size≤L.length:=by simpa using Abq hb.2
    have a0:(⟨ps⟩:Array (Nat×Nat))[i]?=some (off,size):=by simpa using hi
    have h3:¬(v.cells.size≠size∨off+v.cells.size > (⟨L⟩:Array Value).size):=by
     rw[show(⟨L⟩:Array Value).size=L.length from rfl];omega
    have h4:v.cells.zipIdx.foldl (λ(cs:Array Value) (x:Value×Nat)=>cs.setIfInBounds (off+x.2) x.1) ⟨L⟩=⟨EW L off v.cells.toList⟩:=by
     have hf:=Oo v.cells.toList L off 0;rw[AbZ] at hf;rw[←hf,←Array.foldl_toList];simp
    unfold Instr.fill;simp only[a0,h3,AbP,decide_eq_true_eq];rw[if_neg AdM];refine Eq.trans (congrArg (λc=>Instr.fill ((⟨ps⟩:Array (Nat×Nat))[·]?) c rest) h4) ?_;exact Pn ps rest _ h
  ·cases h
section
variable [Tab P] {d:Nat} {t T:TypeId} {pos:String} {af:Array Edge} {cs:List Value}
theorem J1:∀{fs:List Field} {ps:List (Nat×Nat)},FD P (fs.map bareF)=some ps→(fs.mapM (m:=Sem) λf=>do pure (f.offset,←sizeOf f.type)).run P w=.ok ps w
 | [],ps,h=>by simp[FD] at h;subst h;simp
 | f::fs,ps,h=>by
  simp only[AbK,FD] at h
  split at h
  ·rename_i r qs hr hq;simp only[Aar] at h;subst h;have hr':Tab.row P f.type=some r:=hr;simp only[AdC,AaU,Abp,Co hr',AaG,J1 hq];rfl
  ·cases h
theorem LW.build{parts:List (Nat×Operand)}{vs:List (Nat×Value)}(hp:evp E parts=some vs)(hc:Mt P t vs=some cs)(hn:Nat.blt d n=true)
  (h:LW P l Q rest D n ((d,.agg ⟨cs⟩)::E) w):LW P l Q (⟨some d,.build t ⟨parts⟩,T,pos,af,none⟩::rest) D n E w:=by
 unfold Mt at hc
 split at hc<;>try cases hc
 rename_i r hr
 split at hc<;>try cases hc
 rename_i fs a2
 split at hc<;>try cases hc
 rename_i ps a3;obtain⟨gs,a4,a5⟩:=Ek hr a2;have a1:FD P (gs.toList.map bareF)=some ps:=by rw[←a3,←a5];simp
 have a6:=J1 (w:=w) a1;have a7:(gs.mapM (m:=Sem) λf=>do Pure.pure (f.offset,←sizeOf f.type)).run P w=.ok ⟨ps⟩ w:=by
  rw[show gs=gs.toList.toArray from rfl,Adz,Sem.run_map,a6];rfl
 refine LW.val rfl rfl hn (λa ha=>?_) h;have e:=ha.evp hp;have e2:(⟨parts⟩:Array (Nat×Operand)).map (λx=>(x.1,a.eval x.2))=⟨vs⟩:=by rw[←e];simp
 have a0:=Pn ps vs r.zero.cells.toList hc;have e3:(Instr.build t ⟨vs⟩).run P w=.ok (.agg ⟨cs⟩) w:=by
  unfold Instr.build;simp only[AaU,Ih hr,AaG,run_underlying a4,a7];rw[show r.zero.cells=⟨r.zero.cells.toList⟩ from rfl,a0];rfl
 have e4:(execOp a.eval ⟨some d,.build t ⟨parts⟩,T,pos,af,none⟩)=(do Pure.pure (Next.value (←Instr.build t ((⟨parts⟩:Array (Nat×Operand)).map (λx=>(x.1,a.eval x.2)))))):=rfl;rw[e4,e2,AaU,e3];rfl
end
def L1(place:Nat→Option (Nat×Nat))(L:List Value):List (Nat×Value)→Option (List Value)
 | []=>some L
 | (i,v)::rest=>match place i with
  | some (off,size)=>bif (Nat.beq v.cells.toList.length size&&Nat.ble (off+v.cells.toList.length) L.length) then L1 place (EW L off v.cells.toList) rest else none
  | none=>none
theorem M1(place:Nat→Option (Nat×Nat)):∀(vs:List (Nat×Value)) (L:List Value) {cs:List Value},L1 place L vs=some cs→Instr.fill place ⟨L⟩ vs=some ⟨cs⟩
 | [],L,cs,h=>by simp only[L1,Aar] at h;subst h;rfl
 | (i,v)::rest,L,cs,h=>by
  simp only[L1] at h
  split at h
  ·rename_i off size hi;cases hb:(Nat.beq v.cells.toList.length size&&Nat.ble (off+v.cells.toList.length) L.length)<;>rw[hb] at h
   ·simp at h
   ·simp only[cond_true] at h;simp only[AaY] at hb;have h1:v.cells.size=size:=by simpa using Ab4 hb.1
    have h2:off+v.cells.size≤L.length:=by simpa using Abq hb.2
    have h3:¬(v.cells.size≠size∨off+v.cells.size > (⟨L⟩:Array Value).size):=by
     rw[show(⟨L⟩:Array Value).size=L.length from rfl];omega
    have h4:v.cells.zipIdx.foldl (λ(cs:Array Value) (x:Value×Nat)=>cs.setIfInBounds (off+x.2) x.1) ⟨L⟩=⟨EW L off v.cells.toList⟩:=by
     have hf:=Oo v.cells.toList L off 0;rw[AbZ] at hf;rw[←hf,←Array.foldl_toList];simp
    unfold Instr.fill;simp only[hi,h3,AbP,decide_eq_true_eq];rw[if_neg AdM];refine Eq.trans (congrArg (λc=>Instr.fill place c rest) h4) ?_;exact M1 place rest _ h
  ·cases h
def LR(z:List Value):Nat→List Value
 | 0=>[]
 | n+1=>z++LR z n
theorem Ib(z:List Value):∀n,(LR z n).length=n*z.length
 | 0=>by simp[LR]
 | n+1=>by rw[LR,Aaq,Ib z n,Acg];omega
theorem R6(z:List Value)(hz:0<z.length):∀(n i:Nat),i<n*z.length→(LR z n)[i]?=z[i % z.length]?
 | 0,i,h=>by simp at h
 | n+1,i,h=>by
  rw[LR];by_cases hi:i<z.length
  ·rw[Abk hi,Nat.mod_eq_of_lt hi]
  ·rw[Abx AdE,R6 z hz n (i - z.length) (by rw[Acg] at h;omega)]
   congr 1
   exact(Nat.mod_eq_sub_mod AdE).symm
theorem Y3(z:List Value)(n:Nat):(Array.range (n*z.length)).map ((⟨z⟩:Array Value)[· % (⟨z⟩:Array Value).size]!)=⟨LR z n⟩:=by
 rcases AcW z.length with h | h
 ·have hz:z=[]:=Abt h;subst hz;have:LR [] n=[]:=Abt (by rw[Ib];rfl);rw[this];simp
 ·apply Acv;apply AbT;intro i;rw[show(⟨LR z n⟩:Array Value).toList=LR z n from rfl];by_cases hi:i<n*z.length
  ·rw[R6 z h n i hi];have hm:i % z.length<z.length:=Nat.mod_lt _ h;simp[hi,hm]
  ·rw[Abs AdG,Abs (by rw[Ib];omega)]
section
variable [Tab P] {x:Operand} {d b off len cap:Nat} {s t u e T:TypeId} {pos:String} {af:Array Edge} {cs L:List Value} {r r' r'':TRow}
theorem LW.buildSlice{parts:List (Nat×Operand)}{vs:List (Nat×Value)}(hp:evp E parts=some vs)(ht:Tab.row P t=some r)(hr:r.desc=.slice e)(he:Tab.row P e=some r')(hl:Nat.ble (len*r'.size) 16777216=true)(hl0:Nat.blt 0 (len*r'.size)=true)(hz:Nat.beq r'.zero.cells.toList.length r'.size=true)
  (hc:L1 (λi=>some (i*r'.size,r'.size)) (LR r'.zero.cells.toList len) vs=some cs) (hn:Nat.blt d n=true)
  (h:∀b w',b=w.heap.size→Ai w w'→Blk w' b cs e→LW P l Q rest D n ((d,.slice (some ⟨b,0,none⟩) len len)::E) w') :
  LW P l Q (⟨some d,.buildSlice t len ⟨parts⟩,T,pos,af,none⟩::rest) D n E w:=by
 have a2:r'.zero.cells.toList.length=r'.size:=Ab4 hz;have a0:=M1 _ vs _ hc;have a3:¬(len*r'.size > 2 ^ 24):=by have:=Abq hl;omega
 have a4:¬(len*r'.size=0):=by have:=Abq hl0;omega
 have e3:(Instr.buildSlice t len ⟨vs⟩).run P w=.ok (.slice (some ⟨w.heap.size,0,none⟩) len len) (w.alloc (.cells ⟨cs⟩ e)):=by
  unfold Instr.buildSlice;simp only[AaU,run_underlying (AR ht hr),AaG,Co he,a3,if_false,Abp,a4,Ih he];have a1:=Y3 r'.zero.cells.toList len;rw[a2] at a1;rw[show((⟨r'.zero.cells.toList⟩:Array Value))=r'.zero.cells from rfl] at a1;rw[a1,a0];rfl
 refine LW.val (w':=w.alloc (.cells ⟨cs⟩ e)) rfl rfl hn (λa ha=>?_) (h _ _ rfl (Ai.alloc ..) (Blk.alloc ..));have e0:=ha.evp hp;have e2:(⟨parts⟩:Array (Nat×Operand)).map (λx=>(x.1,a.eval x.2))=⟨vs⟩:=by rw[←e0];simp
 have e4:(execOp a.eval ⟨some d,.buildSlice t len ⟨parts⟩,T,pos,af,none⟩)=(do Pure.pure (Next.value (←Instr.buildSlice t len ((⟨parts⟩:Array (Nat×Operand)).map (λx=>(x.1,a.eval x.2)))))):=rfl;rw[e4,e2,AaU,e3];rfl
def AK(l:List UInt8):List Value:=l.map λc=>.int .u8 (c.toNat:Int)
theorem M7(ns:List UInt8):∀(acc:List UInt8),((ns.map λc=>(c.toNat:Int)).foldl (λ(r:ByteArray) z=>r.push (UInt8.ofNat z.toNat)) ⟨⟨acc⟩⟩)=⟨⟨acc++ns⟩⟩:=by
 induction ns with
 | nil=>intro acc;simp
 | cons c ns ih=>
  intro acc;simp only[AbK,Ac6];have:(⟨⟨acc⟩⟩:ByteArray).push (UInt8.ofNat ((c.toNat:Int)).toNat)=⟨⟨acc++[c]⟩⟩:=by
   rw[show((c.toNat:Int)).toNat=c.toNat from rfl,UInt8.ofNat_toNat];apply ByteArray.ext;apply Acv;simp[ByteArray.push]
  rw[this,ih];simp
theorem Y.string_of{l:List UInt8}(hx:ev E x=some (.slice (some ⟨b,off,none⟩) len cap))(hB:Blk w b L T)(hl:l.length=len)(hc:∀j,j<len→L[off+j]?=some (.int .u8 ((l.getD j 0).toNat:Int)))
  (hs:Tab.row P s=some r) (hsd:r.desc=.slice u) (hu:Tab.row P u=some r') (hud:r'.desc=.int .u8) (ht:Tab.row P t=some r'') (htd:r''.desc=.string) (dst:Option Tmp) (T':TypeId) :
  Y P D n E w {dst,op:=.convert s t x,type:=T',pos,after:=af,guard:=none} (Ao l):=λa ha=>by
 have hlo:(loadCells ⟨b,off,none⟩ len).run P w=.ok ((l.map λc=>(c.toNat:Int)).map (Value.int .u8)).toArray w:=by
  have:=run_loadCells_list (P:=P) w ⟨b,off,none⟩ ((l.map λc=>(c.toNat:Int)).map (Value.int .u8)) (λj v hv=>by
   rw[Au];have hj:j<l.length:=by
    have:=(Abg.1 hv).1
    simpa using this
   have h1:=hc j AdE;refine hB.cell ?_;rw[h1,←hv];simp[Aap hj])
  simpa[hl] using this
 have hb:=run_bytesToString (P:=P) w ⟨b,off,none⟩ len cap _ hlo;have hf:=M7 l [];simp only[Ab5] at hf;rw[show ByteArray.empty=(⟨⟨[]⟩⟩:ByteArray) from rfl,hf] at hb;have a0:=run_convert_bytes_string (P:=P) w s t u (some ⟨b,off,none⟩) len cap (AR hs hsd) (E7 hu hud) (by
  obtain⟨dd,hh,hb,_⟩:=B4 ht;cases dd<;>simp[bare,htd] at hb;exact hh)
 simp only[execOp,ha.eval hx,AaU,a0,hb,AaG,Abp]
theorem LW.string_of{bs:List UInt8}{T':TypeId}(hx:ev E x=some (.slice (some ⟨b,0,none⟩) len cap))(hB:Blk w b L T)(hL:L=AK bs++L.drop len)(hl:bs.length=len)
  (hs:Tab.row P s=some r) (hsd:r.desc=.slice u) (hu:Tab.row P u=some r') (hud:r'.desc=.int .u8) (ht:Tab.row P t=some r'') (htd:r''.desc=.string) (hn:Nat.blt d n=true)
  (h:LW P l Q rest D n ((d,Ao bs)::E) w):LW P l Q (⟨some d,.convert s t x,T',pos,af,none⟩::rest) D n E w:=
 LW.val rfl rfl hn (Y.string_of hx hB hl (λj hj=>by
  have hj':j<bs.length:=AdE
  rw[hL,AbC,Abk (by simpa[AK] using hj')];simp[AK,Aap hj']) hs hsd hu hud ht htd _ _) h
def ch(z:Int):UInt8:=UInt8.ofNat z.toNat
theorem F4{z:Int}(h0:0≤z)(h1:z≤255):((ch z).toNat:Int)=z:=by
 unfold ch;rw[UInt8.toNat_ofNat'];omega
theorem LW.str1{z:Int}{T':TypeId}(hx:ev E x=some (.slice (some ⟨b,0,none⟩) 1 1))(hB:Blk w b [.int .u8 z] T)(h0:0≤z)(h1:z≤255)
  (hs:Tab.row P s=some r) (hsd:r.desc=.slice u) (hu:Tab.row P u=some r') (hud:r'.desc=.int .u8) (ht:Tab.row P t=some r'') (htd:r''.desc=.string) (hn:Nat.blt d n=true)
  (h:LW P l Q rest D n ((d,Ao [ch z])::E) w):LW P l Q (⟨some d,.convert s t x,T',pos,af,none⟩::rest) D n E w:=
 LW.string_of (bs:=[ch z]) hx hB (by simp[AK,F4 h0 h1]) rfl hs hsd hu hud ht htd hn h
theorem LW.str2{z y:Int}{T':TypeId}(hx:ev E x=some (.slice (some ⟨b,0,none⟩) 2 2))(hB:Blk w b [.int .u8 z,.int .u8 y] T)(h0:0≤z)(h1:z≤255)(g0:0≤y)(g1:y≤255)
  (hs:Tab.row P s=some r) (hsd:r.desc=.slice u) (hu:Tab.row P u=some r') (hud:r'.desc=.int .u8) (ht:Tab.row P t=some r'') (htd:r''.desc=.string) (hn:Nat.blt d n=true)
  (h:LW P l Q rest D n ((d,Ao [ch z,ch y])::E) w):LW P l Q (⟨some d,.convert s t x,T',pos,af,none⟩::rest) D n E w:=
 LW.string_of (bs:=[ch z,ch y]) hx hB (by simp[AK,F4 h0 h1,F4 g0 g1]) rfl hs hsd hu hud ht htd hn h
end
section
variable [Tab P] {r:TRow}
theorem B3{t off:Nat}{L:List Value}{v:Value}(h:Tab.row P t=some r)(hd:Be r.desc=false)(hv:L[off]?=some v)(w:World):(part t ⟨L⟩ off).run P w=.ok v w:=by
 have a0:(⟨L⟩:Array Value)[off]?=some v:=by simpa using hv
 unfold part;rw[AaU,Fx h];simp[hd,a0]
omit [Tab P] in
theorem YE(d:Nat)(xs ys:Array Value)(w:World):(Op.eqFields d xs ys []).run P w=.ok true w:=rfl
omit [Tab P] in
theorem HO{d : Nat}{xs ys : Array Value}{f : Field}{fs : List Field}{a b : Value}{c : Bool}{w : World}(hn : f.name ≠ "_")(ha : (part f.type xs f.offset).run P w = .ok a w)(hb : (part f.type ys f.offset).run P w = .ok b w)
  (hc:(Op.equalIn d f.type a b).run P w=.ok c w) {e:Bool} (he:(Op.eqFields d xs ys fs).run P w=.ok e w):(Op.eqFields d xs ys (f::fs)).run P w=.ok (c&&e) w:=by
 unfold Op.eqFields;rw[if_pos hn];simp only[AaU,ha,hb,hc,AaG];cases c
 ·rfl
 ·simpa using he
theorem Mz{d t:Nat}{k k':IntKind}(h:Tab.row P t=some r)(hd:r.desc=.int k')(a b:Int)(w:World):(Op.equalIn (d+1) t (.int k a) (.int k b)).run P w=.ok (decide (a=b)) w:=by
 rw[run_equalIn_int w d t k k' a b (E7 h hd),FS]
theorem K8{d t:Nat}(h:Tab.row P t=some r)(hd:r.desc=.string)(a b:List UInt8)(w:World):(Op.equalIn (d+1) t (Ao a) (Ao b)).run P w=.ok (decide (a=b)) w:=by
 have hu:P.underlying t=some .string:=by
  obtain⟨dd,hh,hb,_⟩:=B4 h;cases dd<;>simp[bare,hd] at hb;exact hh
 rw[run_equalIn_string w d t _ _ hu,ByteArray.toList_eq,ByteArray.toList_eq];show Result.ok (a == b) w=_;rw[FS]
theorem Uk{d t:Nat}(h:Tab.row P t=some r)(hd:r.desc=.bool)(a b:Bool)(w:World):(Op.equalIn (d+1) t (.bool a) (.bool b)).run P w=.ok (decide (a=b)) w:=by
 have hu:P.underlying t=some .bool:=by
  obtain⟨dd,hh,hb,_⟩:=B4 h;cases dd<;>simp[bare,hd] at hb;exact hh
 rw[run_equalIn_bool' w d t a b hu,FS]
omit [Tab P] in
theorem Y.eql_agg{x y:Operand}{t ty T:TypeId}{pos:String}{af:Array Edge}{xs ys:List Value}{c:Bool}(hx:ev E x=some (.agg ⟨xs⟩))(hy:ev E y=some (.agg ⟨ys⟩))(hg:P.eqGuardType P.depth t=false)
  (hc:∀w,(Op.equalIn 10000 t (.agg ⟨xs⟩) (.agg ⟨ys⟩)).run P w=.ok c w) (dst:Option Tmp):Y P D n E w {dst,op:=.binOp .eql t x y ty,type:=T,pos,after:=af,guard:=none} (.bool c):=λa ha=>by
 simp only[execOp,ha.eval hx,ha.eval hy,AaU,run_eqGuard_agg w .eql t x y _ _ hg,AaG,run_eql_struct,hc,Abp]
omit [Tab P] in
theorem LW.eql_agg{x y:Operand}{d t ty T:TypeId}{pos:String}{af:Array Edge}{xs ys:List Value}{c:Bool}(hx:ev E x=some (.agg ⟨xs⟩))(hy:ev E y=some (.agg ⟨ys⟩))(hg:P.eqGuardType P.depth t=false)
  (hc:∀w,(Op.equalIn 10000 t (.agg ⟨xs⟩) (.agg ⟨ys⟩)).run P w=.ok c w) (hn:Nat.blt d n=true) (h:LW P l Q rest D n ((d,.bool (c))::E) w) :
  LW P l Q (⟨some d,.binOp .eql t x y ty,T,pos,af,none⟩::rest) D n E w:=LW.val rfl rfl hn (Y.eql_agg hx hy hg hc _) h
end
section
variable [Tab P] {x:Operand} {d:Nat} {t ty T u:TypeId} {pos:String} {af:Array Edge} {v:Value} {r:TRow}
theorem Hp{ms:Array (String×TypeId)}(ht:Tab.row P t=some r)(hr:r.desc=.interface ms)(a:Value)(ha:a=.nilIface∨∃u v,a=.iface u v)(w:World) :
  (Op.equal t a .nilIface).run P w=.ok (match a with | .nilIface=>true | _=>false) w:=by
 obtain⟨dd,hu,hb,_⟩:=B4 ht;obtain⟨ms',a0⟩:∃ms',P.underlying t=some (.interface ms'):=by
  cases dd<;>simp[bare,hr] at hb;exact⟨_,hu⟩
 unfold Op.equal;rw[show Op.maxDepth=9999+1 from rfl];unfold Op.equalIn;rw[AaU,run_underlying a0];rcases ha with rfl | ⟨u,v,rfl⟩<;>rfl
theorem Y.neq_nil{ms:Array (String×TypeId)}(hx:ev E x=some (.iface u v))(ht:Tab.row P t=some r)(hr:r.desc=.interface ms)(dst:Option Tmp) :
  Y P D n E w {dst,op:=.binOp .neq t x (.const .nilIface) ty,type:=T,pos,after:=af,guard:=none} (.bool true):=λa ha=>by
 have hg:(eqGuard .neq t x (.const .nilIface) (.iface u v) .nilIface).run P w=.ok () w:=rfl;have e2:a.eval (.const .nilIface)=.nilIface:=rfl;simp only[execOp,ha.eval hx,e2,AaU,hg,AaG,binOp,Hp ht hr (.iface u v) (Or.inr ⟨u,v,rfl⟩),Abp];rfl
theorem Y.neq_nil_nil{ms:Array (String×TypeId)}(hx:ev E x=some .nilIface)(ht:Tab.row P t=some r)(hr:r.desc=.interface ms)(dst:Option Tmp) :
  Y P D n E w {dst,op:=.binOp .neq t x (.const .nilIface) ty,type:=T,pos,after:=af,guard:=none} (.bool false):=λa ha=>by
 have hg:(eqGuard .neq t x (.const .nilIface) .nilIface .nilIface).run P w=.ok () w:=by
  simp[eqGuard]
 have e2:a.eval (.const .nilIface)=.nilIface:=rfl;simp only[execOp,ha.eval hx,e2,AaU,hg,AaG,binOp,Hp ht hr .nilIface (Or.inl rfl),Abp];rfl
theorem LW.neq_nil{ms:Array (String×TypeId)}(hx:ev E x=some (.iface u v))(ht:Tab.row P t=some r)(hr:r.desc=.interface ms)(hn:Nat.blt d n=true)(h:LW P l Q rest D n ((d,.bool true)::E) w) :
  LW P l Q (⟨some d,.binOp .neq t x (.const .nilIface) ty,T,pos,af,none⟩::rest) D n E w:=LW.val rfl rfl hn (Y.neq_nil hx ht hr _) h
theorem LW.neq_nil_nil{ms:Array (String×TypeId)}(hx:ev E x=some .nilIface)(ht:Tab.row P t=some r)(hr:r.desc=.interface ms)(hn:Nat.blt d n=true)(h:LW P l Q rest D n ((d,.bool false)::E) w) :
  LW P l Q (⟨some d,.binOp .neq t x (.const .nilIface) ty,T,pos,af,none⟩::rest) D n E w:=LW.val rfl rfl hn (Y.neq_nil_nil hx ht hr _) h
end
section
variable [Tab P] {x y:Operand} {d:Nat} {t ty T:TypeId} {pos:String} {af:Array Edge} {r r':TRow}
theorem Y.idx_slice{k:IntKind}{i:Int}{b o len cap j:Nat}{e:TypeId}(hx:ev E x=some (.slice (some ⟨b,o,none⟩) len cap))(hi:ev E y=some (.int k i))(ht:Tab.row P t=some r)(hr:r.desc=.slice e)(he:Tab.row P e=some r')
  (h0:0≤i) (h1:i<len) (hj:o+i.toNat*r'.size=j):Y P D n E w ⟨some d,.indexAddr t x y,T,pos,af,none⟩ (.pointer (some ⟨b,j,none⟩)):=
 (λ_ ha=>by
  have hw:∀w:World,(underlying t).run P w=.ok (.slice e) w:=λw=>run_underlying (AR ht hr) w;have ha':(⟨b,o,none⟩:Addr).add (i.toNat*r'.size)=⟨b,j,none⟩:=by
   unfold Addr.add
   split
   ·simp_all
   ·simp[hj]
  simp only[execOp,ha.eval hx,ha.eval hi,Instr.indexAt,asIntOf,AaU,Abp,AaG,hw,h0,h1,and_self,if_true,Co he,ha'])
theorem LW.idx_slice{k:IntKind}{i:Int}{b o len cap j:Nat}{e:TypeId}(hx:ev E x=some (.slice (some ⟨b,o,none⟩) len cap))(hi:ev E y=some (.int k i))(ht:Tab.row P t=some r)(hr:r.desc=.slice e)(he:Tab.row P e=some r')
  (h0:0≤i) (h1:i<len) (hj:o+i.toNat*r'.size=j) (hn:Nat.blt d n=true) (h:LW P l Q rest D n ((d,.pointer (some ⟨b,j,none⟩))::E) w):LW P l Q (⟨some d,.indexAddr t x y,T,pos,af,none⟩::rest) D n E w:=
 LW.val rfl rfl hn (Y.idx_slice hx hi ht hr he h0 h1 hj) h
end
abbrev rng(k:IntKind)(z:Int):Prop:=match k with
 | .i8=>-128≤z∧z≤127
 | .i16=>-32768≤z∧z≤32767
 | .i32=>-2147483648≤z∧z≤2147483647
 | .i64=>-9223372036854775808≤z∧z≤9223372036854775807
 | .u8=>0≤z∧z≤255
 | .u16=>0≤z∧z≤65535
 | .u32=>0≤z∧z≤4294967295
 | .u64=>0≤z∧z≤18446744073709551615
theorem Is{k:IntKind}{z:Int}(h:rng k z):k.wrap z=z:=by
 refine Zv ?_ ?_<;>cases k<;>simp[IntKind.min,IntKind.max,IntKind.bits,IntKind.signed] at *<;>omega
def arC(op:BinOp)(k:IntKind)(p q:Int):Option (Value×Prop):=match op with
 | .add=>some (.int k (p+q),rng k (p+q))
 | .sub=>some (.int k (p - q),rng k (p - q))
 | .mul=>some (.int k (p*q),rng k (p*q))
 | .quo=>some (.int k (p / q),(0≤p∧1≤q)∧rng k p)
 | .rem=>some (.int k (p % q),0≤p∧1≤q)
 | _=>none
def Aa2(op:BinOp)(a b:List UInt8):Option (Value×Prop):=match op with
 | .add=>some (Ao (a++b),a.length+b.length≤9223372036854775807)
 | _=>none
def Zb(P:Program)[Tab P](E:BW):Op→Option (Value×Prop)
 | .binOp op _ x y _=>match ev E x,ev E y with
  | some (.int j p),some (.int k q)=>bif Eh j k then arC op k p q else none
  | some (.string ⟨⟨a⟩⟩),some (.string ⟨⟨b⟩⟩)=>Aa2 op a b
  | _,_=>none
 | .index t x y=>match Tab.row P t,ev E x,ev E y with
  | some ⟨.string,_,_,_⟩,some (.string ⟨⟨s⟩⟩),some (.int _ i)=>some (.int .u8 (Aj s i.toNat),0≤i∧i<s.length)
  | _,_,_=>none
 | .convert s t x=>match Tab.row P s,Tab.row P t,ev E x with
  | some ⟨.int j,_,_,_⟩,some ⟨.int k,_,_,_⟩,some (.int j' p)=>bif Eh j j' then some (.int k p,rng k p) else none
  | some ⟨.int j,_,_,_⟩,some ⟨.string,_,_,_⟩,some (.int j' p)=>bif Eh j j' then some (Ao [UInt8.ofNat p.toNat],0≤p∧p<128) else none
  | _,_,_=>none
 | _=>none
def UX(E:BW)(d:Int):Option Operand→Option Int
 | none=>some d
 | some x=>match ev E x with
  | some (.int _ z)=>some z
  | _=>none
def opS(P:Program)[Tab P](E:BW):Op→Option (Value×Prop)
 | .slice t x lo hi none=>match Tab.row P t,ev E x with
  | some ⟨.string,_,_,_⟩,some (.string ⟨⟨s⟩⟩)=>match UX E 0 lo,UX E s.length hi with
   | some i,some j=>some (Ao (cut s i.toNat j.toNat),0≤i∧i≤j∧j≤s.length)
   | _,_=>none
  | _,_=>none
 | .indexAddr t x y=>match Tab.row P t,ev E x,ev E y with
  | some ⟨.slice e,_,_,_⟩,some (.slice (some ⟨b,o,none⟩) len _),some (.int _ i)=>match Tab.row P e with
   | some r=>some (.pointer (some ⟨b,o+i.toNat*r.size,none⟩),0≤i∧i<len)
   | none=>none
  | _,_,_=>none
 | _=>none
section
variable [Tab P] {op:Op} {v:Value} {C:Prop} {d:Nat} {T:TypeId} {pos:String} {af:Array Edge}
theorem Y.go(hv:Zb P E op=some (v,C))(hC:C):Y P D n E w ⟨some d,op,T,pos,af,none⟩ v:=by
 unfold Zb at hv
 split at hv
 ·rename_i bop t x y ty
  split at hv
  ·rename_i j p k q hx hy;cases hk:Eh j k<;>simp only[hk,cond_true,cond_false,reduceCtorEq] at hv;obtain rfl:=FY hk;unfold arC at hv
   split at hv<;>simp only[Aar,reduceCtorEq,Abz] at hv
   ·obtain⟨rfl,rfl⟩:=hv;exact Y.arith hx hy (Is hC) rfl
   ·obtain⟨rfl,rfl⟩:=hv;exact Y.arith hx hy (Is hC) rfl
   ·obtain⟨rfl,rfl⟩:=hv;exact Y.arith hx hy (Is hC) rfl
   ·obtain⟨rfl,rfl⟩:=hv;obtain⟨⟨h0,hq⟩,hr⟩:=hC;intro a ha;rw[Kj ha hx hy rfl];have a0:¬q=0:=AdE
    have e:p.tdiv q=p / q:=Int.tdiv_eq_ediv_of_nonneg h0;have g1:0≤p / q:=Int.ediv_nonneg h0 AdE;have g2:p / q≤p:=Int.ediv_le_self q h0;have g3:j.wrap (p / q)=p / q:=Is (by cases j<;>simp only[rng] at hr ⊢<;>omega);simp[binOp,Op.intDiv,a0,e,g3]
   ·obtain⟨rfl,rfl⟩:=hv;exact Y.rem hx hy hC.1 hC.2
  ·rename_i a b hx hy;unfold Aa2 at hv
   split at hv<;>simp only[Aar,reduceCtorEq,Abz] at hv
   obtain⟨rfl,rfl⟩:=hv;exact Y.cat hx hy hC
  ·cases hv
 ·rename_i t x y
  split at hv
  ·rename_i s k i ht hx hy;simp only[Aar,Abz] at hv;obtain⟨rfl,rfl⟩:=hv;exact Y.index hx hy ht rfl hC.1 hC.2
  ·cases hv
 ·rename_i s t x
  split at hv
  ·rename_i j z1 s1 b1 k z2 s2 b2 j' p hs ht hx;cases hk:Eh j j'<;>simp only[hk,cond_true,cond_false,reduceCtorEq] at hv;obtain rfl:=FY hk;simp only[Aar,Abz] at hv;obtain⟨rfl,rfl⟩:=hv;exact Y.conv hx hs rfl ht rfl (Is hC)
  ·rename_i j z1 s1 b1 z2 s2 b2 j' p hs ht hx;cases hk:Eh j j'<;>simp only[hk,cond_true,cond_false,reduceCtorEq] at hv;obtain rfl:=FY hk;simp only[Aar,Abz] at hv;obtain⟨rfl,rfl⟩:=hv;exact Y.chr hx ht rfl hs rfl hC.1 hC.2 _
  ·cases hv
 ·cases hv
theorem WM{d z:Int}{a:Operand}(h:UX E d (some a)=some z):∃k,ev E a=some (.int k z):=by
 unfold UX at h;simp only at h
 split at h
 ·rename_i k u hu;simp only[Aar] at h;exact⟨k,by rw[hu,h]⟩
 ·cases h
theorem Y.gs(hv:opS P E op=some (v,C))(hC:C):Y P D n E w ⟨some d,op,T,pos,af,none⟩ v:=by
 unfold opS at hv
 split at hv
 ·rename_i t x lo hi
  split at hv
  ·rename_i z s0 b0 s ht hx
   split at hv
   ·rename_i i j a0 hj;simp only[Aar,Abz] at hv;obtain⟨rfl,rfl⟩:=hv;obtain⟨h0,h1,h2⟩:=hC;refine Y.slice_str (i:=i.toNat) (j:=j.toNat) hx ht rfl ?_ ?_ AdE AdE
    ·cases lo with
     | none=>
      simp only[UX,Aar] at a0;simp only
      omega
     | some a=>
      obtain⟨k,hk⟩:=WM a0;exact⟨k,_,hk,by omega⟩
    ·cases hi with
     | none=>
      simp only[UX,Aar] at hj;simp only
      omega
     | some a=>
      obtain⟨k,hk⟩:=WM hj;exact⟨k,_,hk,by omega⟩
   ·cases hv
  ·cases hv
 ·rename_i t x y
  split at hv
  ·rename_i e z s0 b0 b o len cap k i ht hx hy
   split at hv
   ·rename_i r he;simp only[Aar,Abz] at hv;obtain⟨rfl,rfl⟩:=hv;exact Y.idx_slice hx hy ht rfl he hC.1 hC.2 rfl
   ·cases hv
  ·cases hv
 ·cases hv
theorem LW.go(hv:Zb P E op=some (v,C))(hn:Nat.blt d n=true)(hC:C)(h:LW P l Q rest D n ((d,v)::E) w):LW P l Q (⟨some d,op,T,pos,af,none⟩::rest) D n E w:=
 LW.val rfl rfl hn (Y.go hv hC) h
theorem QL.go(hv:Zb P E op=some (v,C))(hn:Nat.blt d n=true)(hC:C)(h:QL P l Q rest D n ((d,v)::E) w):QL P l Q (⟨some d,op,T,pos,af,none⟩::rest) D n E w:=
 QL.yields rfl rfl hn (λ_ _=>Y.go hv hC) h
theorem LW.gs(hv:opS P E op=some (v,C))(hn:Nat.blt d n=true)(hC:C)(h:LW P l Q rest D n ((d,v)::E) w):LW P l Q (⟨some d,op,T,pos,af,none⟩::rest) D n E w:=
 LW.val rfl rfl hn (Y.gs hv hC) h
theorem QL.gs(hv:opS P E op=some (v,C))(hn:Nat.blt d n=true)(hC:C)(h:QL P l Q rest D n ((d,v)::E) w):QL P l Q (⟨some d,op,T,pos,af,none⟩::rest) D n E w:=
 QL.yields rfl rfl hn (λ_ _=>Y.gs hv hC) h
end
section
variable [Tab P] {op:Op} {v:Value} {C:Prop} {d:Nat} {T:TypeId} {pos:String} {af:Array Edge} {x:Operand} {b c:Bool} {j t i k:Nat} {L cs:List Value} {T' u e s:TypeId} {r r' r'':TRow}
theorem La(h:LW P l Q rest D n ((d,v)::E) w)(hv:Gk P E op=some v:=by exact rfl)(hn:Nat.blt d n=true:=by exact rfl):LW P l Q (⟨some d,op,T,pos,af,none⟩::rest) D n E w:=LW.pure hv hn h
theorem Qa(h:QL P l Q rest D n ((d,v)::E) w)(hv:Gk P E op=some v:=by exact rfl)(hn:Nat.blt d n=true:=by exact rfl):QL P l Q (⟨some d,op,T,pos,af,none⟩::rest) D n E w:=QL.pure hv hn h
omit [Tab P] in
theorem Lb{dd}(h:LW P l Q (⟨dd,op,T,pos,af,none⟩::rest) D n E w)(hj:BM l j=some t:=by exact rfl)(hb:look E t=some (.bool b):=by exact rfl):LW P l Q (⟨dd,op,T,pos,af,some (j,b)⟩::rest) D n E w:=LW.want hj hb h
omit [Tab P] in
theorem Qb{dd}(h:QL P l Q (⟨dd,op,T,pos,af,none⟩::rest) D n E w)(hj:BM l j=some t:=by exact rfl)(hb:look E t=some (.bool b):=by exact rfl):QL P l Q (⟨dd,op,T,pos,af,some (j,b)⟩::rest) D n E w:=QL.want hj hb h
omit [Tab P] in
theorem Lc{o:Oper}(h:LW P l Q rest D n ((d,undef)::E) w)(hg:o.guard=some (j,b):=by exact rfl)(hd:o.dst=some d:=by exact rfl)(hn:Nat.blt d n=true:=by exact rfl)(hj:BM l j=some t:=by exact rfl)(hb:look E t=some (.bool c):=by exact rfl)(hne:(c == b)=false:=by exact rfl):LW P l Q (o::rest) D n E w:=LW.skip hg hd hn hj hb hne h
omit [Tab P] in
theorem Qc{o:Oper}(h:QL P l Q rest D n ((d,undef)::E) w)(hg:o.guard=some (j,b):=by exact rfl)(hd:o.dst=some d:=by exact rfl)(hn:Nat.blt d n=true:=by exact rfl)(hj:BM l j=some t:=by exact rfl)(hb:look E t=some (.bool c):=by exact rfl)(hne:(c == b)=false:=by exact rfl):QL P l Q (o::rest) D n E w:=QL.skip hg hd hn hj hb hne h
omit [Tab P] in
theorem Ld{o:Oper}(h:LW P l Q rest D n ((d,undef)::E) w)(hg:o.guard=some (j,b):=by exact rfl)(hd:o.dst=some d:=by exact rfl)(hn:Nat.blt d n=true:=by exact rfl)(hj:BM l j=some t:=by exact rfl)(hb:look E t=some undef:=by exact rfl):LW P l Q (o::rest) D n E w:=LW.skip_u hg hd hn hj hb h
omit [Tab P] in
theorem Qd{o:Oper}(h:QL P l Q rest D n ((d,undef)::E) w)(hg:o.guard=some (j,b):=by exact rfl)(hd:o.dst=some d:=by exact rfl)(hn:Nat.blt d n=true:=by exact rfl)(hj:BM l j=some t:=by exact rfl)(hb:look E t=some undef:=by exact rfl):QL P l Q (o::rest) D n E w:=QL.skip_u hg hd hn hj hb h
theorem Le(h:LW P l Q rest D n ((d,v)::E) w)(hv:Zb P E op=some (v,C):=by exact rfl)(hn:Nat.blt d n=true:=by exact rfl)(hC:C:=by first | omega | exact⟨by omega,by omega⟩ | exact⟨by omega,by omega,by omega⟩ | (simp<;>omega)):LW P l Q (⟨some d,op,T,pos,af,none⟩::rest) D n E w:=LW.go hv hn hC h
theorem Qe(h:QL P l Q rest D n ((d,v)::E) w)(hv:Zb P E op=some (v,C):=by exact rfl)(hn:Nat.blt d n=true:=by exact rfl)(hC:C:=by first | omega | exact⟨by omega,by omega⟩ | exact⟨by omega,by omega,by omega⟩ | (simp<;>omega)):QL P l Q (⟨some d,op,T,pos,af,none⟩::rest) D n E w:=QL.go hv hn hC h
theorem Lf(h:LW P l Q rest D n ((d,v)::E) w)(hx:ev E x=some (.pointer (some ⟨k,i,none⟩)):=by exact rfl)(hB:Blk w k L T':=by assumption)(hi:L[i]?=some v:=by exact rfl)(ht:Tab.row P t=some r:=by exact rfl)(hr:Be r.desc=false:=by exact rfl)(hn:Nat.blt d n=true:=by exact rfl):LW P l Q (⟨some d,.load t x,T,pos,af,none⟩::rest) D n E w:=LW.load hx hB hi ht hr hn h
theorem Qf(h:QL P l Q rest D n ((d,v)::E) w)(hx:ev E x=some (.pointer (some ⟨k,i,none⟩)):=by exact rfl)(hB:Blk w k L T':=by assumption)(hi:L[i]?=some v:=by exact rfl)(ht:Tab.row P t=some r:=by exact rfl)(hr:Be r.desc=false:=by exact rfl)(hn:Nat.blt d n=true:=by exact rfl):QL P l Q (⟨some d,.load t x,T,pos,af,none⟩::rest) D n E w:=QL.load hx hB hi ht hr hn h
theorem Lg(h:LW P l Q rest D n ((d,.agg ⟨L⟩)::E) w)(hx:ev E x=some (.pointer (some ⟨k,0,none⟩)):=by exact rfl)(hB:Blk w k L T':=by assumption)(ht:Tab.row P t=some r:=by exact rfl)(hr:Be r.desc=true:=by exact rfl)(hs:Nat.beq r.size L.length=true:=by exact rfl)(hn:Nat.blt d n=true:=by exact rfl):LW P l Q (⟨some d,.load t x,T,pos,af,none⟩::rest) D n E w:=LW.load_all hx hB ht hr hs hn h
theorem Qg(h:QL P l Q rest D n ((d,.agg ⟨L⟩)::E) w)(hx:ev E x=some (.pointer (some ⟨k,0,none⟩)):=by exact rfl)(hB:Blk w k L T':=by assumption)(ht:Tab.row P t=some r:=by exact rfl)(hr:Be r.desc=true:=by exact rfl)(hs:Nat.beq r.size L.length=true:=by exact rfl)(hn:Nat.blt d n=true:=by exact rfl):QL P l Q (⟨some d,.load t x,T,pos,af,none⟩::rest) D n E w:=QL.load_all hx hB ht hr hs hn h
theorem Lh{parts:List (Nat×Operand)}{vs:List (Nat×Value)}(h:LW P l Q rest D n ((d,.agg ⟨cs⟩)::E) w)(hp:evp E parts=some vs:=by exact rfl)(hc:Mt P t vs=some cs:=by exact rfl)(hn:Nat.blt d n=true:=by exact rfl):LW P l Q (⟨some d,.build t ⟨parts⟩,T,pos,af,none⟩::rest) D n E w:=LW.build hp hc hn h
theorem Li{ms:Array (String×TypeId)}{ty:TypeId}(h:LW P l Q rest D n ((d,.bool true)::E) w)(hx:ev E x=some (.iface u v):=by exact rfl)(ht:Tab.row P t=some r:=by exact rfl)(hr:r.desc=.interface ms:=by exact rfl)(hn:Nat.blt d n=true:=by exact rfl):LW P l Q (⟨some d,.binOp .neq t x (.const .nilIface) ty,T,pos,af,none⟩::rest) D n E w:=LW.neq_nil hx ht hr hn h
theorem Lj{ms:Array (String×TypeId)}{ty:TypeId}(h:LW P l Q rest D n ((d,.bool false)::E) w)(hx:ev E x=some .nilIface:=by exact rfl)(ht:Tab.row P t=some r:=by exact rfl)(hr:r.desc=.interface ms:=by exact rfl)(hn:Nat.blt d n=true:=by exact rfl):LW P l Q (⟨some d,.binOp .neq t x (.const .nilIface) ty,T,pos,af,none⟩::rest) D n E w:=LW.neq_nil_nil hx ht hr hn h
theorem Lk{z:Int}(h:LW P l Q rest D n ((d,Ao [ch z])::E) w)(hx:ev E x=some (.slice (some ⟨k,0,none⟩) 1 1):=by exact rfl)(hB:Blk w k [.int .u8 z] T:=by assumption)(h0:0≤z:=by omega)(h1:z≤255:=by omega)(hs:Tab.row P s=some r:=by exact rfl)(hsd:r.desc=.slice u:=by exact rfl)(hu:Tab.row P u=some r':=by exact rfl)(hud:r'.desc=.int .u8:=by exact rfl)(ht:Tab.row P t=some r'':=by exact rfl)(htd:r''.desc=.string:=by exact rfl)(hn:Nat.blt d n=true:=by exact rfl):LW P l Q (⟨some d,.convert s t x,T',pos,af,none⟩::rest) D n E w:=LW.str1 hx hB h0 h1 hs hsd hu hud ht htd hn h
theorem Ll{z y:Int}(h:LW P l Q rest D n ((d,Ao [ch z,ch y])::E) w)(hx:ev E x=some (.slice (some ⟨k,0,none⟩) 2 2):=by exact rfl)(hB:Blk w k [.int .u8 z,.int .u8 y] T:=by assumption)(h0:0≤z:=by omega)(h1:z≤255:=by omega)(g0:0≤y:=by omega)(g1:y≤255:=by omega)(hs:Tab.row P s=some r:=by exact rfl)(hsd:r.desc=.slice u:=by exact rfl)(hu:Tab.row P u=some r':=by exact rfl)(hud:r'.desc=.int .u8:=by exact rfl)(ht:Tab.row P t=some r'':=by exact rfl)(htd:r''.desc=.string:=by exact rfl)(hn:Nat.blt d n=true:=by exact rfl):LW P l Q (⟨some d,.convert s t x,T',pos,af,none⟩::rest) D n E w:=LW.str2 hx hB h0 h1 g0 g1 hs hsd hu hud ht htd hn h
theorem Lm(h:LW P l Q rest D n ((d,v)::E) w)(hv:opS P E op=some (v,C):=by exact rfl)(hn:Nat.blt d n=true:=by exact rfl)(hC:C:=by first | omega | exact⟨by omega,by omega⟩ | exact⟨by omega,by omega,by omega⟩ | (simp<;>omega)):LW P l Q (⟨some d,op,T,pos,af,none⟩::rest) D n E w:=LW.gs hv hn hC h
theorem Qm(h:QL P l Q rest D n ((d,v)::E) w)(hv:opS P E op=some (v,C):=by exact rfl)(hn:Nat.blt d n=true:=by exact rfl)(hC:C:=by first | omega | exact⟨by omega,by omega⟩ | exact⟨by omega,by omega,by omega⟩ | (simp<;>omega)):QL P l Q (⟨some d,op,T,pos,af,none⟩::rest) D n E w:=QL.gs hv hn hC h
end
section
variable {x y:Code} {i:Nat} {c:Operand} {K:Exit→Act→World→Prop}
theorem Ca(h:QW Q (.exit i) D n E w)(hi:Nat.beq i id=false:=by exact rfl):QW (Exit.inBlock id Q) (.exit i) D n E w:=QW.blk_other hi h
theorem Cb(h:CW P x Q D n E w)(hc:ev E c=some (.bool true):=by exact rfl):CW P (.cond c x y) Q D n E w:=CW.cond_t hc h
theorem Cc(h:CW P y Q D n E w)(hc:ev E c=some (.bool false):=by exact rfl):CW P (.cond c x y) Q D n E w:=CW.cond_f hc h
end
end
attribute [irreducible] CW LW QW QL RW
structure Hd(p:Prop):Prop where
 h:p
theorem Sa{G G':Prop}(h:G')(hi:Hd G'→G:=by intro h;(repeat (first | refine La ?_ | refine Lb ?_ | refine Lc ?_ | refine Ld ?_ | refine Le ?_ | refine Lf ?_ | refine Lg ?_ | apply LW.nil | apply QW.then_n | apply QW.round | apply RW.succ | apply CW.seq | apply CW.region | apply CW.skip | apply CW.block | apply CW.ret | apply CW.exit | apply QW.then_ret | apply QW.then_exit | apply QW.blk_n | apply QW.blk_ret | apply QW.blk_exit | refine Ca ?_ | refine Cb ?_ | refine Cc ?_ | refine Lh ?_ | refine Li ?_ | refine Lj ?_ | refine Lk ?_ | refine Ll ?_));exact h.h):G:=hi ⟨h⟩
theorem Sz{G G':Prop}(h:G')(hi:Hd G'→G:=by intro h;(repeat (first | refine La ?_ | refine Lb ?_ | refine Lc ?_ | refine Ld ?_ | refine Le ?_ | refine Lf ?_ | refine Lg ?_ | apply LW.nil | apply QW.then_n | apply QW.round | apply RW.succ | apply CW.seq | apply CW.region | apply CW.skip | apply CW.block | apply CW.ret | apply CW.exit | apply QW.then_ret | apply QW.then_exit | apply QW.blk_n | apply QW.blk_ret | apply QW.blk_exit | refine Ca ?_ | refine Cb ?_ | refine Cc ?_ | refine Lh ?_ | refine Li ?_ | refine Lj ?_ | refine Lk ?_ | refine Ll ?_ | refine Lm ?_));exact h.h):G:=hi ⟨h⟩
theorem Sl{G G':Prop}(h:G')(hi:Hd G'→G:=by intro h;(repeat (first | refine La ?_ | refine Lb ?_ | refine Lc ?_ | refine Ld ?_ | refine Le ?_ | refine Lf ?_ | refine Lg ?_ | refine Lh ?_ | refine Li ?_ | refine Lj ?_ | refine Lk ?_ | refine Ll ?_));exact h.h):G:=hi ⟨h⟩
theorem Sq{G G':Prop}(h:G')(hi:Hd G'→G:=by intro h;(repeat (first | refine Qa ?_ | refine Qb ?_ | refine Qc ?_ | refine Qd ?_ | refine Qe ?_ | refine Qf ?_ | refine Qg ?_));exact h.h):G:=hi ⟨h⟩
theorem Sqz{G G':Prop}(h:G')(hi:Hd G'→G:=by intro h;(repeat (first | refine Qa ?_ | refine Qb ?_ | refine Qc ?_ | refine Qd ?_ | refine Qe ?_ | refine Qf ?_ | refine Qg ?_ | refine Qm ?_));exact h.h):G:=hi ⟨h⟩
end Go.E
namespace Go.E
open Go
theorem CW.yes{P:Program}{Q:Exit→Act→World→Prop}{D:List Deferred}{n:Nat}{E:BW}{w:World}{x y:Code}{c:Operand}{b:Bool}(hc:ev E c=some (.bool b))(hb:b=true)(h:CW P x Q D n E w):CW P (.cond c x y) Q D n E w:=CW.cond hc (λ_=>h) (λh=>by rw[hb] at h;cases h)
theorem CW.no{P:Program}{Q:Exit→Act→World→Prop}{D:List Deferred}{n:Nat}{E:BW}{w:World}{x y:Code}{c:Operand}{b:Bool}(hc:ev E c=some (.bool b))(hb:b=false)(h:CW P y Q D n E w):CW P (.cond c x y) Q D n E w:=CW.cond hc (λh=>by rw[hb] at h;cases h) (λ_=>h)
def Ac:Value→List Nat
 | .slice (some a) _ _=>[a.block]
 | _=>[]
def Own(w:World)(lo:Nat)(e:TypeId)(size:Nat)(v:Value)(n:Nat)(xs:List Value):Prop:=
 xs.length=n*size∧(v=.slice none 0 0∧n=0∨∃g cap sp,v=.slice (some ⟨g,0,none⟩) n cap∧Blk w g (xs++sp) e∧n≤cap∧sp.length=(cap - n)*size∧lo≤g)
theorem Own.nil(w:World)(lo:Nat)(e size:Nat):Own w lo e size (.slice none 0 0) 0 []:=⟨by simp,.inl ⟨rfl,rfl⟩⟩
theorem Own.chg{S:List Nat}{w w':World}{lo e size n:Nat}{v:Value}{xs:List Value}(h:Own w lo e size v n xs)(k:Chg S w w')(hn:∀b,b∈Ac v→b∉S):Own w' lo e size v n xs:=by
 obtain⟨hl,h | ⟨g,cap,sp,rfl,hB,h1,h2,h3⟩⟩:=h
 ·exact⟨hl,.inl h⟩
 ·exact⟨hl,.inr ⟨g,cap,sp,rfl,hB.chg k (hn g Aet),h1,h2,h3⟩⟩
theorem Own.ext{w w':World}{lo e size n:Nat}{v:Value}{xs:List Value}(h:Own w lo e size v n xs)(k:Ai w w'):Own w' lo e size v n xs:=h.chg k AdM
theorem Own.lt{w:World}{lo e size n:Nat}{v:Value}{xs:List Value}(h:Own w lo e size v n xs){b:Nat}(hb:b∈Ac v):lo≤b∧b<w.heap.size:=by
 obtain⟨hl,⟨rfl,_⟩ | ⟨g,cap,sp,rfl,hB,h1,h2,h3⟩⟩:=h
 ·simp[Ac] at hb
 ·simp[Ac] at hb;subst hb;exact⟨h3,hB.lt⟩
theorem Own.old{w:World}{lo e size n:Nat}{v:Value}{xs:List Value}(h:Own w lo e size v n xs){k:Nat}(hk:k<lo):k∉Ac v:=λhb=>by have:=(h.lt hb).1;omega
theorem Own.slice{w:World}{lo e size n:Nat}{v:Value}{xs:List Value}(h:Own w lo e size v n xs):∃a c,v=.slice a n c:=by
 obtain⟨hl,⟨rfl,rfl⟩ | ⟨g,cap,sp,rfl,_⟩⟩:=h
 ·exact⟨_,_,rfl⟩
 ·exact⟨_,_,rfl⟩
theorem Own.get{w:World}{lo e size n:Nat}{v:Value}{xs:List Value}(h:Own w lo e size v n xs)(hn:0<n):∃g cap sp,v=.slice (some ⟨g,0,none⟩) n cap∧Blk w g (xs++sp) e∧lo≤g:=by
 obtain⟨hl,⟨rfl,rfl⟩ | ⟨g,cap,sp,rfl,hB,h1,h2,h3⟩⟩:=h
 ·omega
 ·exact⟨g,cap,sp,rfl,hB,h3⟩
theorem Own.low{w:World}{lo lo' e size n:Nat}{v:Value}{xs:List Value}(h:Own w lo e size v n xs)(hl:lo'≤lo):Own w lo' e size v n xs:=by
 obtain⟨h0,h | ⟨g,cap,sp,rfl,hB,h1,h2,h3⟩⟩:=h
 ·exact⟨h0,.inl h⟩
 ·exact⟨h0,.inr ⟨g,cap,sp,rfl,hB,h1,h2,by omega⟩⟩
theorem M5{α:Type}{f:α→List Value}{m:Nat}(hf:∀x,(f x).length=m):∀(l:List α) (sp:List Value) (i:Nat) (x:α) (j:Nat),l[i]?=some x→j<m→(l.flatMap f++sp)[i*m+j]?=(f x)[j]?
 | [],_,_,_,_,h,_=>by simp at h
 | y::l,sp,0,x,j,h,hj=>by
  simp at h;subst h
  rw[Ab6,AaR,Ade,AbC,Abk (by rw[hf];exact hj)]
 | y::l,sp,i+1,x,j,h,hj=>by
  have ih:=M5 hf l sp i x j Aeu hj;rw[Ab6,AaR,Abx (by rw[hf,Acg];omega),←ih,hf]
  congr 1
  rw[Acg];omega
theorem Dz.of{l:List Value}:∀{cs:List Value} {i:Nat},(∀j,j<cs.length→l[i+j]?=cs[j]?)→Dz l i cs
 | [],_,_=>trivial
 | c::cs,i,h=>⟨by have:=h 0 AdM;simpa using this,Dz.of (λj hj=>by
   have:=h (j+1) AdG;rw[show i+1+j=i+(j+1) by omega,this];simp)⟩
theorem Xe{α:Type}{f:α→List Value}{m:Nat}(hf:∀x,(f x).length=m){l:List α}{sp:List Value}{i:Nat}{x:α}(h:l[i]?=some x):Dz (l.flatMap f++sp) (i*m) (f x):=
 Dz.of λj hj=>M5 hf l sp i x j h (by rw[←hf x];exact hj)
theorem CL(z:Array Value)(k:Nat):(Builtin.zeroCells z k).toList.length=k*z.size:=by simp[Builtin.zeroCells]
theorem Blk.getElem{w:World}{b:Nat}{l:List Value}{T:TypeId}(h:Blk w b l T):∀j u,l[j]?=some u→w.cell? ((⟨b,0,none⟩:Addr).add j)=some u:=λj u hu=>by
 have e:(⟨b,0,none⟩:Addr).add j=⟨b,j,none⟩:=by
  unfold Addr.add
  split
  ·simp_all
  ·simp
 rw[e];exact h.cell hu
section
variable {P:Program} [Tab P] {w:World} {lo:Nat} {t e:TypeId} {r r':TRow}
theorem UC(ht:Tab.row P t=some r)(hr:r.desc=.slice e)(he:Tab.row P e=some r')(hz:Nat.beq r'.zero.cells.size r'.size=true)
  {v:Value} {n m b c:Nat} {xs news:List Value} {T':TypeId} (hown:Own w lo e r'.size v n xs) (hlo:lo≤w.heap.size) (hB:Blk w b news T') (hl:news.length=m*r'.size) (h1:∀u∈news,u.oneCell'=true) (hm:0<m)
  (h63:n+m≤9223372036854775807) (hby:(n+m)*r'.bytes≤140737488355328) (ty:TypeId) :
  ∃v' w',(Builtin.append_ #[t,t] ty #[v,.slice (some ⟨b,0,none⟩) m c]).run P w=.ok v' w'∧Chg (Ac v) w w'∧Own w' lo e r'.size v' (n+m) (xs++news)∧(∀k,k∈Ac v'→k∈Ac v∨w.heap.size≤k):=by
 obtain⟨d,hd,hb,i,hi,a4,a3,a5⟩:=Tab.ok e r' he;have hu:=AR ht hr;have a6:r'.zero.cells.size=r'.size:=Ab4 hz;obtain⟨a2,⟨rfl,rfl⟩ | ⟨g,cap,sp,rfl,hG,h2,h3,h4⟩⟩:=hown
 ·have hx:xs=[]:=by cases xs with
   | nil=>rfl
   | cons a b=>simp at a2
  subst hx;have a0:=run_append_nil (P:=P) w t ty e i r'.zero hu hi a4 ⟨b,0,none⟩ m c news (by rw[a3];exact hl) hB.getElem hm AdE (by rw[a5];simp at hby;omega);refine⟨_,_,a0,?_,?_,?_⟩
  ·exact(Ai.drew w).trans (Ai.alloc _ _)
  ·refine⟨by simp[hl],.inr ⟨w.heap.size,_,(Builtin.zeroCells r'.zero.cells (grownCap w m 0 e - m)).toList,by rw[AbC],?_,?_,?_,hlo⟩⟩
   ·have:=Blk.alloc w.drew (news++(Builtin.zeroCells r'.zero.cells (grownCap w m 0 e - m)).toList) e;have ea:news.toArray++Builtin.zeroCells r'.zero.cells (grownCap w m 0 e - m)=(⟨news++(Builtin.zeroCells r'.zero.cells (grownCap w m 0 e - m)).toList⟩:Array Value):=by
     apply Acv;simp
    rw[ea];exact this
   ·have:=grownCap_ge w m 0 e;omega
   ·rw[CL,a6,AbC]
  ·intro k hk;simp[Ac] at hk;exact .inr AdE
 ·by_cases a1:n+m≤cap
  ·have a0:=run_append_room (P:=P) w t ty e i hu hi g n cap ⟨xs++sp⟩ hG ⟨b,0,none⟩ m c news (by rw[a3];exact hl) hB.getElem h1 a1 (by
    rw[a3,hl,←a2];simp only[Ad0,Aaq,h3,a2];have:m*r'.size≤(cap - n)*r'.size:=AcM _ AdE;omega)
   have e1:((⟨xs++sp⟩:Array Value).toList.take (n*i.size)++news++(⟨xs++sp⟩:Array Value).toList.drop (n*i.size+news.length))=xs++news++sp.drop news.length:=by
    rw[a3,←a2];simp
   rw[e1] at a0;refine⟨_,_,a0,Chg.setRow _ _ _,⟨by simp[a2,hl,Acg],.inr ⟨g,cap,sp.drop news.length,rfl,hG.setRow _,a1,?_,h4⟩⟩,?_⟩
   ·rw[Acq,h3,hl,←Nat.sub_mul]
    congr 1
    omega
   ·intro k hk;exact .inl hk
  ·have hg:cap<n+m:=AdE
   have a0:=run_append_grow (P:=P) w t ty e i r'.zero hu hi a4 ⟨g,0,none⟩ n cap xs (by rw[a3];exact a2) (λj u hj=>hG.getElem j u (by
     rw[Abk (Abg.1 hj).1];exact hj)) ⟨b,0,none⟩ m c news (by rw[a3];exact hl) hB.getElem hg AdE (by rw[a5];exact growslice_fits hg hby)
   refine⟨_,_,a0,?_,?_,?_⟩
   ·exact((Ai.drew w).trans (Ai.alloc _ _)).mono AdM
   ·refine⟨by simp[a2,hl,Acg],.inr ⟨w.heap.size,_,(Builtin.zeroCells r'.zero.cells (grownCap w (n+m) cap e - (n+m))).toList,rfl,?_,grownCap_ge w (n+m) cap e,?_,hlo⟩⟩
    ·have:=Blk.alloc w.drew (xs++news++(Builtin.zeroCells r'.zero.cells (grownCap w (n+m) cap e - (n+m))).toList) e;have ea:xs.toArray++news.toArray++Builtin.zeroCells r'.zero.cells (grownCap w (n+m) cap e - (n+m))=(⟨xs++news++(Builtin.zeroCells r'.zero.cells (grownCap w (n+m) cap e - (n+m))).toList⟩:Array Value):=by
      apply Acv;simp
     rw[ea];exact this
    ·rw[CL,a6]
   ·intro k hk;simp[Ac] at hk;exact .inr AdE
variable {Q:Exit→Act→World→Prop} {D:List Deferred} {n:Nat} {E:BW} {l rest:List Oper} {x y:Operand} {d T:Nat} {pos:String} {af:Array Edge}
theorem Y.eql_nil{ms:Array (String×TypeId)}{u:TypeId}{v:Value}{ty:TypeId}(hx:ev E x=some (.iface u v))(ht:Tab.row P t=some r)(hr:r.desc=.interface ms)(dst:Option Tmp) :
  Y P D n E w {dst,op:=.binOp .eql t x (.const .nilIface) ty,type:=T,pos,after:=af,guard:=none} (.bool false):=λa ha=>by
 have hg:(eqGuard .eql t x (.const .nilIface) (.iface u v) .nilIface).run P w=.ok () w:=rfl;have e2:a.eval (.const .nilIface)=.nilIface:=rfl;simp only[execOp,ha.eval hx,e2,AaU,hg,AaG,binOp,Hp ht hr (.iface u v) (Or.inr ⟨u,v,rfl⟩),Abp]
theorem Y.eql_nil_nil{ms:Array (String×TypeId)}{ty:TypeId}(hx:ev E x=some .nilIface)(ht:Tab.row P t=some r)(hr:r.desc=.interface ms)(dst:Option Tmp) :
  Y P D n E w {dst,op:=.binOp .eql t x (.const .nilIface) ty,type:=T,pos,after:=af,guard:=none} (.bool true):=λa ha=>by
 have hg:(eqGuard .eql t x (.const .nilIface) .nilIface .nilIface).run P w=.ok () w:=by
  simp[eqGuard]
 have e2:a.eval (.const .nilIface)=.nilIface:=rfl;simp only[execOp,ha.eval hx,e2,AaU,hg,AaG,binOp,Hp ht hr .nilIface (Or.inl rfl),Abp]
theorem LW.eql_nil{ms:Array (String×TypeId)}{u:TypeId}{v:Value}{ty:TypeId}(hx:ev E x=some (.iface u v))(ht:Tab.row P t=some r)(hr:r.desc=.interface ms)(hn:Nat.blt d n=true)(h:LW P l Q rest D n ((d,.bool false)::E) w) :
  LW P l Q (⟨some d,.binOp .eql t x (.const .nilIface) ty,T,pos,af,none⟩::rest) D n E w:=LW.val rfl rfl hn (Y.eql_nil hx ht hr _) h
theorem LW.eql_nil_nil{ms:Array (String×TypeId)}{ty:TypeId}(hx:ev E x=some .nilIface)(ht:Tab.row P t=some r)(hr:r.desc=.interface ms)(hn:Nat.blt d n=true)(h:LW P l Q rest D n ((d,.bool true)::E) w) :
  LW P l Q (⟨some d,.binOp .eql t x (.const .nilIface) ty,T,pos,af,none⟩::rest) D n E w:=LW.val rfl rfl hn (Y.eql_nil_nil hx ht hr _) h
theorem Y.idx_addr{k:IntKind}{i:Int}{a0:Addr}{len cap:Nat}{e:TypeId}(hx:ev E x=some (.slice (some a0) len cap))(hi:ev E y=some (.int k i))(ht:Tab.row P t=some r)(hr:r.desc=.slice e)(he:Tab.row P e=some r')
  (h0:0≤i) (h1:i<len):Y P D n E w ⟨some d,.indexAddr t x y,T,pos,af,none⟩ (.pointer (some (a0.add (i.toNat*r'.size)))):=
 (λ_ ha=>by
  have hw:∀w:World,(underlying t).run P w=.ok (.slice e) w:=λw=>run_underlying (AR ht hr) w;simp only[execOp,ha.eval hx,ha.eval hi,Instr.indexAt,asIntOf,AaU,Abp,AaG,hw,h0,h1,and_self,if_true,Co he])
theorem LW.idx_addr{k:IntKind}{i:Int}{a0:Addr}{len cap:Nat}{e:TypeId}(hx:ev E x=some (.slice (some a0) len cap))(hi:ev E y=some (.int k i))(ht:Tab.row P t=some r)(hr:r.desc=.slice e)(he:Tab.row P e=some r')
  (h0:0≤i) (h1:i<len) (hn:Nat.blt d n=true) (h:LW P l Q rest D n ((d,.pointer (some (a0.add (i.toNat*r'.size))))::E) w):LW P l Q (⟨some d,.indexAddr t x y,T,pos,af,none⟩::rest) D n E w:=LW.val rfl rfl hn (Y.idx_addr hx hi ht hr he h0 h1) h
theorem Y.load_cell{a0:Addr}{v:Value}(hx:ev E x=some (.pointer (some a0)))(hc:w.cell? a0=some v)(ht:Tab.row P t=some r)(hr:Be r.desc=false):Y P D n E w ⟨some d,.load t x,T,pos,af,none⟩ v:=
 (λ_ ha=>by
  have hl:(loadVar t a0).run P w=.ok v w:=by
   unfold loadVar;rw[AaU,Fx ht];simp[hr,hc]
  simp only[execOp,ha.eval hx,Instr.loadAt,Instr.sureAddr,AaU,Abp,AaG,hl])
theorem LW.load_cell{a0:Addr}{v:Value}(hx:ev E x=some (.pointer (some a0)))(hc:w.cell? a0=some v)(ht:Tab.row P t=some r)(hr:Be r.desc=false)(hn:Nat.blt d n=true)(h:LW P l Q rest D n ((d,v)::E) w):LW P l Q (⟨some d,.load t x,T,pos,af,none⟩::rest) D n E w:=
 LW.val rfl rfl hn (Y.load_cell hx hc ht hr) h
omit [Tab P] in
theorem LW.shr{k j:IntKind}{p z:Int}{m:Nat}{ty u:TypeId}(hx:ev E x=some (.int k p))(hy:ev E y=some (.int j (m:Int)))(hm:m≤k.bits)(hz:p / 2 ^ m=z)(hn:Nat.blt d n=true)(h:LW P l Q rest D n ((d,.int k z)::E) w) :
  LW P l Q (⟨some d,.binOp .shr u x y ty,T,pos,af,none⟩::rest) D n E w:=by
 refine LW.val (w':=w) rfl rfl hn (λa ha=>?_) h;have hg:(eqGuard .shr u x y (.int k p) (.int j (m:Int))).run P w=.ok () w:=rfl;have a0:min m k.bits=m:=AdE
 have hf:p.fdiv (2 ^ m)=p / 2 ^ m:=Adu p (Int.le_of_lt (Int.pow_pos AdH));have a1:¬((m:Int)<0):=AdE
 simp only[execOp,ha.eval hx,ha.eval hy,AaU,hg,AaG,binOp,Op.shift,a1,if_false,AcH,a0,hf,hz,Abp]
theorem LW.append{v:Value}{k m b c:Nat}{xs news:List Value}{T':TypeId}(hx:ev E x=some v)(hy:ev E y=some (.slice (some ⟨b,0,none⟩) m c))(ht:Tab.row P t=some r)(hr:r.desc=.slice e)(he:Tab.row P e=some r')(hz:Nat.beq r'.zero.cells.size r'.size=true)
  (hown:Own w lo e r'.size v k xs) (hlo:lo≤w.heap.size) (hB:Blk w b news T') (hl:Nat.beq news.length (m*r'.size)=true) (h1:news.all (·.oneCell')=true) (hm:Nat.blt 0 m=true) (hby:(k+m)*(r'.bytes+1)≤140737488355328) (hn:Nat.blt d n=true)
  (h:∀v' w',Chg (Ac v) w w'→Own w' lo e r'.size v' (k+m) (xs++news)→(∀j,j∈Ac v'→j∈Ac v∨w.heap.size≤j)→LW P l Q rest D n ((d,v')::E) w') :
  LW P l Q (⟨some d,.call {callee:=.builtin .append,args:=#[x,y],argTypes:=#[t,t]},T,pos,af,none⟩::rest) D n E w:=by
 have h2:(k+m)*(r'.bytes+1)=(k+m)*r'.bytes+(k+m):=by rw[AdD,Acr]
 obtain⟨v',w',a0,hc,ho,hv⟩:=UC (c:=c) ht hr he hz hown hlo hB (Ab4 hl) Aem (Abq hm) AdE AdE T;refine LW.val (w':=w') (v:=v') rfl rfl hn (λa ha=>?_) (h v' w' hc ho hv);unfold execOp;simp only[resolve,invoke,builtin,AaU,Abp,AaG,AbW,AbK,Acm,ha.eval hx,ha.eval hy,a0]
theorem LW.string_own{bs:List UInt8}{v:Value}{s u k:Nat}{r'':TRow}{T':TypeId}(hx:ev E x=some v)(hown:Own w lo e 1 v k (AK bs))(hs:Tab.row P s=some r)(hsd:r.desc=.slice u)(hu:Tab.row P u=some r')(hud:r'.desc=.int .u8)(ht:Tab.row P t=some r'')(htd:r''.desc=.string)(hn:Nat.blt d n=true)
  (h:LW P l Q rest D n ((d,Ao bs)::E) w):LW P l Q (⟨some d,.convert s t x,T',pos,af,none⟩::rest) D n E w:=by
 obtain⟨hl,⟨rfl,rfl⟩ | ⟨g,cap,sp,rfl,hB,h1,h2,h3⟩⟩:=hown
 ·have hb:bs=[]:=by
   cases bs with
   | nil=>rfl
   | cons a b=>simp[AK] at hl
  subst hb;refine LW.val rfl rfl hn (λa ha=>?_) h;have a0:=run_convert_bytes_string (P:=P) w s t u none 0 0 (AR hs hsd) (E7 hu hud) (by
   obtain⟨dd,hh,hb,_⟩:=B4 ht;cases dd<;>simp[bare,htd] at hb;exact hh)
  simp only[execOp,ha.eval hx,AaU,a0,Abp];rfl
 ·refine LW.string_of hx hB (bs:=bs) ?_ (by simpa[AK] using hl) hs hsd hu hud ht htd hn h;rw[Ad9 (by simpa using hl)]
end
end Go.E
namespace Go.E
open Go
variable {P:Program}
def Sr(Φ Ψ:Value→World→Prop):Ending→World→Prop
 | .returned v,w'=>Φ v w'
 | .panicked c,w'=>∃v,c=[{v,recovered:=false}]∧Ψ v w'
 | .outgrown,_=>False
def Fz(P:Program)(f:FuncId)(args:List Value)(w:World)(Φ Ψ:Value→World→Prop):Prop:=Cx P f=true∧Calls P f ⟨args⟩ w (Sr Φ Ψ)
section
variable {Q:Exit→Act→World→Prop} {D:List Deferred} {n:Nat} {E:BW} {w:World} {l rest:List Oper} {x y:Code} {id:Nat}
theorem Fz.enter{f:FuncId}{fn:Func}{c:Code}{args:List Value}{Φ Ψ:Value→World→Prop}(hf:P.funcs[f]?=some fn)(hb:fn.body=some c)(hn:fn.ntmps=n)(hc:Cx P f=true)(hl:Nat.ble args.length n=true)
  (h:CW P c (bodyPost P fn (Sr Φ Ψ)) [] n (DV 0 args) w):Fz P f args w Φ Ψ:=
 ⟨hc,calls_of_wp hf hb (by rw[hn];unfold CW at h;exact h _ (DN args n (Abq hl)))⟩
theorem QW.bodyP{fn:Func}{Φ Ψ:Value→World→Prop}{rs:List ResultVar}{vs:List Value}{v:Value}(hf:fn.results=⟨rs⟩)(hv:RV P E w rs vs)(hp:Kb vs=v)(h:Φ v w) :
  QW (bodyPost P fn (Sr Φ Ψ)) .ret [] n E w:=by unfold QW;exact λ_ ha=>⟨ha.defers,_,BP hf ha hv,by rw[hp];exact h⟩
theorem QW.bodyP_n{fn:Func}{Φ Ψ:Value→World→Prop}{rs:List ResultVar}{vs:List Value}{v:Value}(hf:fn.results=⟨rs⟩)(hv:RV P E w rs vs)(hp:Kb vs=v)(h:Φ v w) :
  QW (bodyPost P fn (Sr Φ Ψ)) .normal [] n E w:=by unfold QW;exact λ_ ha=>⟨ha.defers,_,BP hf ha hv,by rw[hp];exact h⟩
theorem QW.bodyP0n{fn:Func}{Φ Ψ:Value→World→Prop}(hf:fn.results=#[])(h:Φ (.tuple #[]) w):QW (bodyPost P fn (Sr Φ Ψ)) .normal [] n E w:=QW.bodyP_n (rs:=[]) (vs:=[]) hf trivial rfl h
theorem QW.bodyP1{fn:Func}{Φ Ψ:Value→World→Prop}{s:Nat}{v:Value}(hf:fn.results=#[.tmp s])(hv:look E s=some v)(h:Φ v w) :
  QW (bodyPost P fn (Sr Φ Ψ)) .ret [] n E w:=QW.bodyP (rs:=[.tmp s]) (vs:=[v]) hf ⟨hv,trivial⟩ rfl h
theorem QW.panicP{fn:Func}{Φ Ψ:Value→World→Prop}{v:Value}(h:Ψ v w):QW (bodyPost P fn (Sr Φ Ψ)) (.panic [{v,recovered:=false}]) [] n E w:=by
 unfold QW;exact λ_ ha=>⟨ha.defers,v,rfl,h⟩
theorem LW.callP{fop:Operand}{f:FuncId}{as:List Operand}{fs vs cs:List Value}{d:Nat}{T:TypeId}{pos:String}{af:Array Edge}{ts:Array TypeId}{Φ Ψ:Value→World→Prop}
  (hf:ev E fop=some (.func (.func f) ⟨fs⟩ ⟨cs⟩)) (ha:Sm E as=some vs) (hn:Nat.blt d n=true) (hc:Fz P f (fs++(vs++cs)) w Φ Ψ)
  (hp:∀v w',Ψ v w'→QW Q (.panic [{v,recovered:=false}]) D n E w')
  (h:∀v w',Φ v w'→LW P l Q rest D n ((d,v)::E) w') :
  LW P l Q (⟨some d,.call ⟨.value fop,⟨as⟩,ts⟩,T,pos,af,none⟩::rest) D n E w:=by
 unfold LW QW at *;intro a hh;refine wpList_plain rfl λK hK=>?_;have e1:=hh.eval hf;have e2:=hh.evals ha;unfold Oper.wp;simp only[execOp,resolve,AbW,e2,e1,Deferred.ofValue,AaU,Abp,AaG,invoke,Dy hc.1,Oper.upon];refine(show Calls P f _ w _ from ?_);have:((⟨fs⟩:Array Value)++(⟨vs⟩:Array Value)++(⟨cs⟩:Array Value))=⟨fs++(vs++cs)⟩:=AdM
 rw[this];refine hc.2.mono ?_;intro e w' he
 cases e with
 | returned v=>exact hK _ _ (h v w' he _ (hh.put d v hn))
 | panicked c=>obtain⟨v,rfl,hv⟩:=he;exact hp v w' hv a hh
 | outgrown=>exact he.elim
theorem LW.callP0{f:FuncId}{as:List Operand}{vs:List Value}{d:Nat}{T:TypeId}{pos:String}{af:Array Edge}{ts:Array TypeId}{Φ Ψ:Value→World→Prop}
  (ha:Sm E as=some vs) (hn:Nat.blt d n=true) (hc:Fz P f vs w Φ Ψ)
  (hp:∀v w',Ψ v w'→QW Q (.panic [{v,recovered:=false}]) D n E w')
  (h:∀v w',Φ v w'→LW P l Q rest D n ((d,v)::E) w') :
  LW P l Q (⟨some d,.call ⟨.value (.func f),⟨as⟩,ts⟩,T,pos,af,none⟩::rest) D n E w:=
 LW.callP (f:=f) (fs:=[]) (cs:=[]) rfl ha hn (by simpa using hc) hp h
theorem LW.panic{x:Operand}{t:TypeId}{v:Value}{dd:Option Tmp}{T:TypeId}{pos:String}{af:Array Edge}(hx:ev E x=some (.iface t v))(h:QW Q (.panic [{v:=.iface t v,recovered:=false}]) D n E w) :
  LW P l Q (⟨dd,.panic x,T,pos,af,none⟩::rest) D n E w:=by
 unfold LW QW at *;intro a hh;refine wpList_plain rfl λK hK=>?_;unfold Oper.wp;simp only[execOp,hh.eval hx,AaU,run_panic_iface,Result.andThen];exact h a hh
end
section
variable {Q:Exit→Act→World→Prop} {D:List Deferred} {n:Nat} {E:BW} {w:World} {l rest:List Oper} [Tab P] {x:Operand} {t T:TypeId} {r:TRow} {d:Nat} {pos:String} {af:Array Edge} {v:Value}
def QM:TypeDesc→Bool
 | .interface _=>true
 | _=>false
theorem LW.mkIface(hx:ev E x=some v)(ht:Tab.row P t=some r)(hr:QM r.desc=false)(hn:Nat.blt d n=true)(h:LW P l Q rest D n ((d,.iface t v)::E) w) :
  LW P l Q (⟨some d,.makeInterface t x,T,pos,af,none⟩::rest) D n E w:=
 LW.val rfl rfl hn (λa ha=>by
  obtain⟨dd,_,hb,hu⟩:=B4 ht;have e:(Instr.makeInterface t v).run P w=.ok (.iface t v) w:=by
   unfold Instr.makeInterface;rw[AaU,hu];simp only[AaG];cases dd<;>first | rfl | (rw[←hb] at hr;cases hr)
  simp only[execOp,ha.eval hx,AaU,e,AaG,Abp]) h
theorem LW.field1{fs:Array Field}{fl:Field}{r':TRow}{cs:List Value}{k:Nat}(hx:ev E x=some (.agg ⟨cs⟩))(ht:Tab.row P t=some r)(hr:r.desc=.struct fs)(hf:fs.toList[k]?=some fl)(hf':Tab.row P fl.type=some r')(hg:Be r'.desc=false)(hv:cs[fl.offset]?=some v)(hn:Nat.blt d n=true)
  (h:LW P l Q rest D n ((d,v)::E) w):LW P l Q (⟨some d,.field t x k,T,pos,af,none⟩::rest) D n E w:=
 LW.val rfl rfl hn (λa ha=>by
  obtain⟨gs,hgs,hgf⟩:=Ek ht hr;obtain⟨g,hg1,hg2⟩:∃g,gs[k]?=some g∧bareF g=fl:=by
   rw[←hgf] at hf
   simpa using hf
  subst hg2;have e:(Instr.field t (.agg ⟨cs⟩) k).run P w=.ok v w:=by
   unfold Instr.field;rw[AaU,run_underlying hgs];simp only[AaG,hg1];have h2:Tab.row P g.type=some r':=hf';have:=B3 (P:=P) (L:=cs) (off:=g.offset) h2 hg hv w;simp[asAgg,this]
  simp only[execOp,ha.eval hx,AaU,e,AaG,Abp]) h
end
def TL(P:Program)(l:List Oper)(m:Nat)(Q:Exit→Act→World→Prop)(rest:List Oper)(D:List Deferred)(n:Nat)(E:BW)(w:World):Prop:=
 ∀a,Holds a D n E→wpStill P l.toArray w (λa'=>wpList P l.toArray Q (l.drop m) a' w) rest a
section
variable {Q:Exit→Act→World→Prop} {D:List Deferred} {n m:Nat} {E:BW} {w:World} {l rest:List Oper}
theorem CW.drawTail{t:Nat}(m:Nat)(hm:P.follows .mixedOrders=true)(hB:Region.lexTailB .any l.toArray m=true)(h:∀w',Ai w w'→TL P l m Q (l.take m) D n E w'):CW P (.region t l.toArray true) Q D n E w:=by
 unfold CW;exact λa ha=>wp_region_still_tail m hm hB (h _ (Ai.drew w) a ha)
theorem TL.nil(h:LW P l Q (l.drop m) D n E w):TL P l m Q [] D n E w:=by
 unfold LW at h;exact λa ha=>wpStill_nil (h a ha)
theorem TL.yields{o:Oper}{v:Value}{d:Nat}(hg:o.guard=none)(hd:o.dst=some d)(hn:Nat.blt d n=true)(hy:Y P D n E w o v)(h:TL P l m Q rest D n ((d,v)::E) w):TL P l m Q (o::rest) D n E w:=λa ha=>by
 refine wpStill_step λK hK=>?_;rw[if_pos (by simp[Region.wanted,hg])];unfold Oper.still;rw[hy a ha];refine⟨rfl,hK _ ?_⟩;rw[hd];exact h _ (ha.put d v hn)
variable [Tab P] {op:Op} {v:Value} {C:Prop} {d:Nat} {T:TypeId} {pos:String} {af:Array Edge} {x:Operand} {t i k:Nat} {L:List Value} {T':TypeId} {r:TRow}
theorem Ta(h:TL P l m Q rest D n ((d,v)::E) w)(hv:Gk P E op=some v:=by exact rfl)(hn:Nat.blt d n=true:=by exact rfl):TL P l m Q (⟨some d,op,T,pos,af,none⟩::rest) D n E w:=TL.yields rfl rfl hn (Y.pure hv) h
theorem Te(h:TL P l m Q rest D n ((d,v)::E) w)(hv:Zb P E op=some (v,C):=by exact rfl)(hn:Nat.blt d n=true:=by exact rfl)(hC:C:=by first | omega | exact⟨by omega,by omega⟩ | exact⟨by omega,by omega,by omega⟩ | (simp<;>omega)):TL P l m Q (⟨some d,op,T,pos,af,none⟩::rest) D n E w:=TL.yields rfl rfl hn (Y.go hv hC) h
theorem Tf(h:TL P l m Q rest D n ((d,v)::E) w)(hx:ev E x=some (.pointer (some ⟨k,i,none⟩)):=by exact rfl)(hB:Blk w k L T':=by assumption)(hi:L[i]?=some v:=by exact rfl)(ht:Tab.row P t=some r:=by exact rfl)(hr:Be r.desc=false:=by exact rfl)(hn:Nat.blt d n=true:=by exact rfl):TL P l m Q (⟨some d,.load t x,T,pos,af,none⟩::rest) D n E w:=TL.yields rfl rfl hn (Y.load hx hB hi ht hr) h
theorem Tg(h:TL P l m Q rest D n ((d,.agg ⟨L⟩)::E) w)(hx:ev E x=some (.pointer (some ⟨k,0,none⟩)):=by exact rfl)(hB:Blk w k L T':=by assumption)(ht:Tab.row P t=some r:=by exact rfl)(hr:Be r.desc=true:=by exact rfl)(hs:Nat.beq r.size L.length=true:=by exact rfl)(hn:Nat.blt d n=true:=by exact rfl):TL P l m Q (⟨some d,.load t x,T,pos,af,none⟩::rest) D n E w:=TL.yields rfl rfl hn (Y.load_all hx hB ht hr hs) h
theorem Tm(h:TL P l m Q rest D n ((d,v)::E) w)(hv:opS P E op=some (v,C):=by exact rfl)(hn:Nat.blt d n=true:=by exact rfl)(hC:C:=by first | omega | exact⟨by omega,by omega⟩ | exact⟨by omega,by omega,by omega⟩ | (simp<;>omega)):TL P l m Q (⟨some d,op,T,pos,af,none⟩::rest) D n E w:=TL.yields rfl rfl hn (Y.gs hv hC) h
end
def AW(P:Program)(l:List Oper)(Q:Exit→Act→World→Prop)(f:Nat)(listed:List Bool)(D:List Deferred)(n:Nat)(E:BW)(w:World):Prop:=
 ∀a,Holds a D n E→wpAny P .any l.toArray Q f ⟨listed⟩ a w
section
variable {Q:Exit→Act→World→Prop} {D:List Deferred} {n f:Nat} {E:BW} {w:World} {l:List Oper} {ls:List Bool}
theorem Mi{o:Oper}{a:Act}{ops:Array Oper}{K:Act→World→Prop}(h:o.wp P a w (wpList P ops (Exit.then K Q) []) (Exit.then K Q)):o.wp P a w K Q:=by
 have hk:∀a w,wpList P ops (Exit.then K Q) [] a w→K a w:=λa w h=>by unfold wpList at h;exact h
 unfold Oper.wp at *;generalize (execOp a.eval o).run P w=r at *
 cases r with
 | ok nx w'=>
  cases nx<;>simp only[Oper.upon] at h ⊢
  case value u=>exact hk _ _ h
  case skip=>exact hk _ _ h
  case defer d=>exact hk _ _ h
  case enter f args=>
   refine Calls.mono h λe w'' he=>?_
   cases e with
   | returned u=>exact hk _ _ he
   | panicked c=>exact he
   | outgrown=>exact he
  case row row args=>exact Rows.mono h λu w'' he=>hk _ _ he
 | halt x w'=>
  cases x<;>simp only[Oper.upon] at h ⊢
  case panic u=>exact h
theorem CW.drawAny{t:Nat}(hm:P.follows .mixedOrders=true)(h:∀w',Ai w w'→AW P l Q l.length (List.replicate l.length false) D n E w'):CW P (.region t l.toArray true) Q D n E w:=by
 unfold CW;exact λa ha=>wp_region_any hm (by
  have:=h _ (Ai.drew w) a ha;have e:(⟨List.replicate l.length false⟩:Array Bool)=Array.replicate l.toArray.size false:=AdM
  rw[e] at this
  simpa using this)
theorem AW.take(i:Nat){o:Oper}{v:Value}{d:Nat}{E':BW}{ls':List Bool}(hi:l[i]?=some o)(hg:o.guard=none)(hd:o.dst=some d)(hn:Nat.blt d n=true)(hy:∀w,Y P D n E w o v)(hE:E'=(d,v)::E)(hl:ls.set i true=ls')(hs:Region.noSelect l.toArray=true)
  (hf:Region.free .any l.toArray ⟨ls⟩ i=true) (hr:(Region.ready .any l.toArray ⟨ls⟩).contains i=true) (ht:∀c a w,Q (.panic c) (a.put o.dst v) w→Q (.panic c) a w)
  (h:AW P l Q f ls' D n E' w):AW P l Q (f+1) ls D n E w:=λa ha=>by
 subst hE;subst hl;refine wpAny_take (oi:=o) (v:=v) Aep hs hf hr ht (.inl ⟨by simp[Region.wanted,hg],λw=>hy w a ha⟩) ?_;have e:(⟨ls⟩:Array Bool).setIfInBounds i true=⟨ls.set i true⟩:=by apply Acv;simp
 rw[e,hd];exact h _ (ha.put d v hn)
theorem AW.one(i:Nat){o:Oper}{ls':List Bool}(hr:Region.ready .any l.toArray ⟨ls⟩=[i])(hi:l[i]?=some o)(hl:ls.set i true=ls')(h:LW P l (Exit.then (wpAny P .any l.toArray Q f ⟨ls'⟩) Q) [o] D n E w):AW P l Q (f+1) ls D n E w:=λa ha=>by
 subst hl;refine wpAny_all hr AdM λj hj=>?_;simp only[Aad] at hj;subst hj;unfold LW at h;have h1:=h a ha;have e:(⟨ls⟩:Array Bool).setIfInBounds j true=⟨ls.set j true⟩:=by apply Acv;simp
 rw[e];have a0:l.toArray[j]?=some o:=by simpa using hi
 unfold wpOp;simp only[a0];unfold wpList at h1
 split
 ·rename_i hw;rw[if_pos hw] at h1;exact h1.imp Mi (λhh=>hh)
 ·rename_i hw;rw[if_neg hw] at h1;unfold wpList at h1;exact h1
theorem AW.two(i j:Nat){o o':Oper}{ls' ls'':List Bool}(hr:Region.ready .any l.toArray ⟨ls⟩=[i,j])(hi:l[i]?=some o)(hj:l[j]?=some o')(hl:ls.set i true=ls')(hl':ls.set j true=ls'')
  (h:LW P l (Exit.then (wpAny P .any l.toArray Q f ⟨ls'⟩) Q) [o] D n E w) (h':LW P l (Exit.then (wpAny P .any l.toArray Q f ⟨ls''⟩) Q) [o'] D n E w):AW P l Q (f+1) ls D n E w:=λa ha=>by
 subst hl;subst hl';have key:∀(k:Nat) (o:Oper),l[k]?=some o→LW P l (Exit.then (wpAny P .any l.toArray Q f ⟨ls.set k true⟩) Q) [o] D n E w→wpOp P l.toArray Q k (wpAny P .any l.toArray Q f ((⟨ls⟩:Array Bool).setIfInBounds k true)) a w:=by
  intro k o hk h;unfold LW at h;have h1:=h a ha;have e:(⟨ls⟩:Array Bool).setIfInBounds k true=⟨ls.set k true⟩:=by apply Acv;simp
  rw[e];have a0:l.toArray[k]?=some o:=by simpa using hk
  unfold wpOp;simp only[a0];unfold wpList at h1
  split
  ·rename_i hw;rw[if_pos hw] at h1;exact h1.imp Mi (λhh=>hh)
  ·rename_i hw;rw[if_neg hw] at h1;unfold wpList at h1;exact h1
 refine wpAny_all hr AdM λk hk=>?_;simp only[AaT,Abu,or_false] at hk;rcases hk with rfl | rfl
 ·exact key _ _ hi h
 ·exact key _ _ hj h'
theorem QW.any{Q':Exit→Act→World→Prop}(h:AW P l Q f ls D n E w):QW (Exit.then (wpAny P .any l.toArray Q f ⟨ls⟩) Q') .normal D n E w:=by
 unfold QW;exact λa ha=>h a ha
theorem AW.done(hr:Region.ready .any l.toArray ⟨ls⟩=[])(h:QW Q .normal D n E w):AW P l Q f ls D n E w:=by
 unfold QW at h;exact λa ha=>wpAny_done hr (h a ha) f
end
attribute [irreducible] TL AW
theorem Stz{G G':Prop}(h:G')(hi:Hd G'→G:=by intro h;(repeat (first | refine Ta ?_ | refine Te ?_ | refine Tf ?_ | refine Tg ?_ | refine Tm ?_));exact h.h):G:=hi ⟨h⟩
end Go.E
namespace Go.E
open Go
variable {P:Program}
section
variable {Q:Exit→Act→World→Prop} {D:List Deferred} {n:Nat} {E:BW} {w:World} {l rest:List Oper} {x y:Code} {id:Nat}
theorem AF.enterD{f:FuncId}{fn:Func}{c:Code}{args:List Value}{Φ:Value→World→Prop}(hf:P.funcs[f]?=some fn)(hb:fn.body=some c)(hn:fn.ntmps=n)(hc:Cx P f=true)(hl:Nat.ble args.length n=true)
  (h:CW P c (bodyPostD P fn (FO Φ)) [] n (DV 0 args) w):AF P f args w Φ:=
 ⟨hc,calls_of_wp_defers hf hb (by rw[hn];unfold CW at h;exact h _ (DN args n (Abq hl)))⟩
theorem LW.defer{fop:Operand}{f:FuncId}{as:List Operand}{fs vs cs:List Value}{T:TypeId}{pos:String}{af:Array Edge}{ts:Array TypeId}
  (hf:ev E fop=some (.func (.func f) ⟨fs⟩ ⟨cs⟩)) (ha:Sm E as=some vs) (h:LW P l Q rest ({target:=.fn (.func f) ⟨cs⟩,args:=⟨fs++vs⟩}::D) n E w) :
  LW P l Q (⟨none,.defer ⟨.value fop,⟨as⟩,ts⟩,T,pos,af,none⟩::rest) D n E w:=by
 unfold LW at *;intro a hh;refine wpList_plain rfl λK hK=>?_;have e1:=hh.eval hf;have e2:=hh.evals ha;unfold Oper.wp;simp only[execOp,resolve,AbW,e2,e1,Deferred.ofValue,AaU,Abp,AaG,Oper.upon];have:((⟨fs⟩:Array Value)++(⟨vs⟩:Array Value))=⟨fs++vs⟩:=AdM
 rw[this];refine hK _ _ (h _ ⟨by simp[Act.put,hh.defers],by simpa[Act.put] using hh.size,λt v hv=>by simpa[Act.put] using hh.val t v hv⟩)
theorem QW.bodyD0{fn:Func}{Φ:Value→World→Prop}{rs:List ResultVar}{vs:List Value}{v:Value}(hf:fn.results=⟨rs⟩)(hv:RV P E w rs vs)(hp:Kb vs=v)(h:Φ v w) :
  QW (bodyPostD P fn (FO Φ)) .ret [] n E w:=by
 unfold QW;intro a ha;show Leaves P fn a.tmps (FO Φ) a.defers .returning w;rw[ha.defers];exact⟨_,BP hf ha hv,v,by rw[hp],h⟩
theorem QW.bodyD1{fn:Func}{Φ:Value→World→Prop}{rs:List ResultVar}{f:FuncId}{vs cs:List Value}(hf:fn.results=⟨rs⟩)(hc:Cx P f=true)
  (h:CallsD P f ⟨vs++cs⟩ .returning w λe u' w'=>e=.returned (.tuple #[])∧u'=.returning∧∃us,RV P E w' rs us∧Φ (Kb us) w') :
  QW (bodyPostD P fn (FO Φ)) .ret [{target:=.fn (.func f) ⟨cs⟩,args:=⟨vs⟩}] n E w:=by
 unfold QW;intro a ha;show Leaves P fn a.tmps (FO Φ) a.defers .returning w;rw[ha.defers];refine leaves_cons (f:=f) (args:=⟨vs++cs⟩) AdM (by
  have:((⟨vs⟩:Array Value)++(⟨cs⟩:Array Value))=⟨vs++cs⟩:=AdM
  simp only[invoke,this,Dy hc]) ?_
 intro c₀ k hu;obtain⟨e,u',w',fr,⟨rfl,rfl,us,hv,hp⟩,hs⟩:=h c₀ k hu;exact⟨.returned (.tuple #[]),.returning,w',fr,⟨_,BP hf ha hv,_,rfl,hp⟩,hs⟩
theorem QW.panicD1{fn:Func}{Φ:Value→World→Prop}{rs:List ResultVar}{f:FuncId}{vs cs:List Value}{v:Value}(hf:fn.results=⟨rs⟩)(hc:Cx P f=true)
  (h:CallsD P f ⟨vs++cs⟩ (.panicking [{v,recovered:=false}]) w λe u' w'=>e=.returned (.tuple #[])∧u'=.panicking [{v,recovered:=true}]∧∃us,RV P E w' rs us∧Φ (Kb us) w') :
  QW (bodyPostD P fn (FO Φ)) (.panic [{v,recovered:=false}]) [{target:=.fn (.func f) ⟨cs⟩,args:=⟨vs⟩}] n E w:=by
 unfold QW;intro a ha;show Leaves P fn a.tmps (FO Φ) a.defers (.panicking [{v,recovered:=false}]) w;rw[ha.defers];refine leaves_cons (f:=f) (args:=⟨vs++cs⟩) AdM (by
  have:((⟨vs⟩:Array Value)++(⟨cs⟩:Array Value))=⟨vs++cs⟩:=AdM
  simp only[invoke,this,Dy hc]) ?_
 intro c₀ k hu;obtain⟨e,u',w',fr,⟨rfl,rfl,us,hv,hp⟩,hs⟩:=h c₀ k hu;exact⟨.returned (.tuple #[]),.panicking [{v,recovered:=true}],w',fr,⟨_,BP hf ha hv,_,rfl,hp⟩,hs⟩
def Z3(P:Program)(fn:Func)(c₀:Frame)(cs:List Frame)(u:FrameMode)(R:Ending→FrameMode→World→Prop):Exit→Act→World→Prop:=λe a w=>bodyPostS P fn c₀ cs R e a ({c₀ with mode:=u}::cs) w
theorem QW.bodyS{fn:Func}{c₀:Frame}{cs:List Frame}{u:FrameMode}{R:Ending→FrameMode→World→Prop}(hf:fn.results=#[])(h:R (.returned (.tuple #[])) u w):QW (Z3 P fn c₀ cs u R) .normal [] n E w:=by
 unfold QW;exact λa ha=>⟨ha.defers,u,rfl,_,BP (rs:=[]) (vs:=[]) (w:=w) hf ha trivial,h⟩
theorem Nz{a:Act}{d:Option Tmp}{T:TypeId}{pos:String}{af:Array Edge}:(execOp a.eval ⟨d,.call ⟨.builtin .recover,#[],#[]⟩,T,pos,af,none⟩).run P w=.ok .recover w:=by
 simp[execOp,resolve,invoke,builtin]
theorem Ji{f:FuncId}{fn:Func}{args:List Value}{u u':FrameMode}{v:Value}{R:Ending→FrameMode→World→Prop}{d1 d2 T1 T2:Nat}{p1 p2:String}{a1 a2:Array Edge}
  (hf:P.funcs[f]?=some fn) (hb:fn.body=some (.seq (.region id #[⟨some d1,.call ⟨.builtin .recover,#[],#[]⟩,T1,p1,a1,none⟩,⟨some d2,.assign (.tmp d1),T2,p2,a2,none⟩] false) y))
  (hn:fn.ntmps=n) (hl:Nat.ble args.length n=true) (h1:Nat.blt d1 n=true) (h2:Nat.blt d2 n=true)
  (hrec:∀(c₀:Frame) (cs:List Frame),c₀.mode=u→(match recoverD (c₀::cs) with | some (x,cs')=>(x,cs') | none=>(.nilIface,c₀::cs))=(v,{c₀ with mode:=u'}::cs))
  (h:∀c₀ cs,CW P y (Z3 P fn c₀ cs u' R) [] n ((d2,v)::(d1,v)::DV 0 args) w):CallsD P f ⟨args⟩ u w R:=by
 subst hn;refine callsD_of_wpS hf hb λc₀ cs hu=>?_;have a3:=DN args fn.ntmps (Abq hl);have hr:=hrec c₀ cs hu;refine wpS_seq (wpS_region ?_);have a0:∀a:Act,Holds a [] fn.ntmps ((d2,v)::(d1,v)::DV 0 args)→Exit.thenS (y.wpS P (bodyPostS P fn c₀ cs R)) (bodyPostS P fn c₀ cs R) .normal a ({c₀ with mode:=u'}::cs) w:=λa ha=>by
  have hc:=h c₀ cs;unfold CW at hc;exact wpS_of_wp (hc a ha)
 have step2:∀a:Act,Holds a [] fn.ntmps ((d1,v)::DV 0 args)→wpOpsS P #[⟨some d1,.call ⟨.builtin .recover,#[],#[]⟩,T1,p1,a1,none⟩,⟨some d2,.assign (.tmp d1),T2,p2,a2,none⟩] (Exit.thenS (y.wpS P (bodyPostS P fn c₀ cs R)) (bodyPostS P fn c₀ cs R)) [1] a ({c₀ with mode:=u'}::cs) w:=λa ha=>by
  have hv:a.eval (.tmp d1)=v:=ha.eval (x:=.tmp d1) (by simp[ev,look]);have e:(execOp a.eval ⟨some d2,.assign (.tmp d1),T2,p2,a2,none⟩).run P w=.ok (.value v) w:=by simp[execOp,hv]
  simp only[wpOpsS,AcD,List.getElem?_cons_succ,AcY,Region.wanted,if_true,e,Oper.upon];exact a0 _ (ha.put d2 v h2)
 rw[show List.range (#[⟨some d1,.call ⟨.builtin .recover,#[],#[]⟩,T1,p1,a1,none⟩,⟨some d2,.assign (.tmp d1),T2,p2,a2,none⟩]:Array Oper).size=[0,1] from rfl];unfold wpOpsS;simp only[AcD,AcY,Region.wanted,if_true,Nz]
 cases hq:recoverD (c₀::cs) with
 | none=>
  rw[hq] at hr;simp only[Abz] at hr;obtain⟨rfl,e⟩:=hr;simp only;rw[e]
  exact step2 _ (a3.put d1 _ h1)
 | some z=>
  obtain⟨z1,z2⟩:=z;rw[hq] at hr;simp only[Abz] at hr;obtain⟨rfl,rfl⟩:=hr;exact step2 _ (a3.put d1 _ h1)
end
section
variable {Q:Exit→Act→World→Prop} {D:List Deferred} {n:Nat} {E:BW} {w:World} {l rest:List Oper} [Tab P] {x:Operand} {t T s:TypeId} {r:TRow} {d:Nat} {pos:String} {af:Array Edge} {v:Value}
theorem LW.typeAssert(hx:ev E x=some (.iface t v))(ht:Tab.row P t=some r)(hr:QM r.desc=false)(hn:Nat.blt d n=true)(h:LW P l Q rest D n ((d,.tuple #[v,.bool true])::E) w) :
  LW P l Q (⟨some d,.typeAssert x s t true,T,pos,af,none⟩::rest) D n E w:=
 LW.val rfl rfl hn (λa ha=>by
  obtain⟨dd,_,hb,hu⟩:=B4 ht;have e:(Instr.typeAssert (.iface t v) s t true).run P w=.ok (.tuple #[v,.bool true]) w:=by
   unfold Instr.typeAssert;rw[AaU,hu];simp only[AaG];cases dd<;>first | (simp;done) | (rw[←hb] at hr;cases hr)
  simp only[execOp,ha.eval hx,AaU,e,AaG,Abp]) h
end
end Go.E
namespace Go.E
open Go
variable {P:Program}
section
variable {Q:Exit→Act→World→Prop} {D:List Deferred} {n:Nat} {E:BW} {w:World} {l rest:List Oper} [Tab P] {x y:Operand} {t T e:TypeId} {r r':TRow} {d:Nat} {pos:String} {af:Array Edge} {v:Value}
omit [Tab P] in
theorem Iz(h:P.underlying t=some (.slice e)):P.elem t=e:=by simp[Program.elem,h]
theorem Y.slice_from{lo:Operand}{k:IntKind}{p:Option Addr}{m c i:Nat}(hx:ev E x=some (.slice p m c))(hl:ev E lo=some (.int k (i:Int)))(ht:Tab.row P t=some r)(hr:r.desc=.slice e)(he:Tab.row P e=some r')(hi:i≤m) :
  Y P D n E w ⟨some d,.slice t x (some lo) none none,T,pos,af,none⟩ (.slice (if c=i then p else p.map (·.add (i*r'.size))) (m - i) (c - i)):=λa ha=>by
 have hu:=AR ht hr;have hu':P.underlying t=some (.slice (P.elem t)):=by rw[Iz hu];exact hu
 have e1:(Instr.sliceAt t (.slice p m c) (some (.int k (i:Int))) none none).run P w=.ok (.slice (if c=i then p else p.map (·.add (i*r'.size))) (m - i) (c - i)) w:=by
  rw[run_sliceAt_slice w t _ _ _ _ hu'];rw[run_slice_any w t p m c hu'];have hb:(Instr.sliceBounds true m c (some (.int k (i:Int))) none none).run P w=.ok (i,m,c) w:=by
   simp[Instr.sliceBounds,Instr.sliceBound,asIntOf,hi]
  rw[hb,Iz hu];simp only[AaG,Co he,sliced]
 simp only[execOp,ha.eval hx,ha.eval hl,Ab3,Adn,AaU,e1,AaG,Abp]
theorem Y.slice_to{hi mx:Operand}{k k':IntKind}{p:Option Addr}{m c i:Nat}(hx:ev E x=some (.slice p m c))(hl:ev E hi=some (.int k (i:Int)))(hl':ev E mx=some (.int k' (i:Int)))(ht:Tab.row P t=some r)(hr:r.desc=.slice e)(he:Tab.row P e=some r')(hi':i≤c) :
  Y P D n E w ⟨some d,.slice t x none (some hi) (some mx),T,pos,af,none⟩ (.slice p i i):=λa ha=>by
 have hu:=AR ht hr;have hu':P.underlying t=some (.slice (P.elem t)):=by rw[Iz hu];exact hu
 have e0:p.map (·.add 0)=p:=by cases p<;>simp[Addr.add]
 have e1:(Instr.sliceAt t (.slice p m c) none (some (.int k (i:Int))) (some (.int k' (i:Int)))).run P w=.ok (.slice p i i) w:=by
  rw[run_sliceAt_slice w t _ _ _ _ hu',run_slice_any w t p m c hu'];have hb:(Instr.sliceBounds true m c none (some (.int k (i:Int))) (some (.int k' (i:Int)))).run P w=.ok (0,i,i) w:=by
   simp[Instr.sliceBounds,Instr.sliceBound,asIntOf,hi']
  rw[hb,Iz hu];simp only[AaG,Co he,sliced,Ade,e0,ite_self,Ad6]
 simp only[execOp,ha.eval hx,ha.eval hl,ha.eval hl',Ab3,Adn,AaU,e1,AaG,Abp]
theorem LW.slice_to{hi mx:Operand}{k k':IntKind}{p:Option Addr}{m c i:Nat}(hx:ev E x=some (.slice p m c))(hl:ev E hi=some (.int k (i:Int)))(hl':ev E mx=some (.int k' (i:Int)))(ht:Tab.row P t=some r)(hr:r.desc=.slice e)(he:Tab.row P e=some r')(hi':i≤c)(hn:Nat.blt d n=true)
  (h:LW P l Q rest D n ((d,.slice p i i)::E) w):LW P l Q (⟨some d,.slice t x none (some hi) (some mx),T,pos,af,none⟩::rest) D n E w:=LW.val rfl rfl hn (Y.slice_to hx hl hl' ht hr he hi') h
theorem Y.load_cells{a0:Addr}{cs:List Value}(hx:ev E x=some (.pointer (some a0)))(hc:∀j u,cs[j]?=some u→w.cell? (a0.add j)=some u)(ht:Tab.row P t=some r)(hr:Be r.desc=true)(hs:r.size=cs.length):Y P D n E w ⟨some d,.load t x,T,pos,af,none⟩ (.agg ⟨cs⟩):=
 (λ_ ha=>by
  have hl:(loadVar t a0).run P w=.ok (.agg ⟨cs⟩) w:=by
   unfold loadVar;rw[AaU,Fx ht];simp only[hr,AaG,if_true,AaU,Co ht,hs];rw[run_loadCells_list w a0 cs hc];rfl
  simp only[execOp,ha.eval hx,Instr.loadAt,Instr.sureAddr,AaU,Abp,AaG,hl])
theorem LW.load_cells{a0:Addr}{cs:List Value}(hx:ev E x=some (.pointer (some a0)))(hc:∀j u,cs[j]?=some u→w.cell? (a0.add j)=some u)(ht:Tab.row P t=some r)(hr:Be r.desc=true)(hs:r.size=cs.length)(hn:Nat.blt d n=true)
  (h:LW P l Q rest D n ((d,.agg ⟨cs⟩)::E) w):LW P l Q (⟨some d,.load t x,T,pos,af,none⟩::rest) D n E w:=LW.val rfl rfl hn (Y.load_cells hx hc ht hr hs) h
theorem LW.append_full{p:Option Addr}{k m b c lo:Nat}{xs news:List Value}{T':TypeId}(hx:ev E x=some (.slice p k k))(hy:ev E y=some (.slice (some ⟨b,0,none⟩) m c))(ht:Tab.row P t=some r)(hr:r.desc=.slice e)(he:Tab.row P e=some r')(hz:Nat.beq r'.zero.cells.size r'.size=true)
  (hxl:xs.length=k*r'.size) (hp:p=none∧k=0∨∃a,p=some a∧∀j u,xs[j]?=some u→w.cell? (a.add j)=some u) (hlo:lo≤w.heap.size) (hB:Blk w b news T') (hl:Nat.beq news.length (m*r'.size)=true) (h1:news.all (·.oneCell')=true) (hm:Nat.blt 0 m=true) (hby:(k+m)*(r'.bytes+1)≤140737488355328) (hn:Nat.blt d n=true)
  (h:∀v' w',Ai w w'→Own w' lo e r'.size v' (k+m) (xs++news)→LW P l Q rest D n ((d,v')::E) w') :
  LW P l Q (⟨some d,.call {callee:=.builtin .append,args:=#[x,y],argTypes:=#[t,t]},T,pos,af,none⟩::rest) D n E w:=by
 have h2:(k+m)*(r'.bytes+1)=(k+m)*r'.bytes+(k+m):=by rw[AdD,Acr]
 obtain⟨d0,hd,hb,i,hi,a3,a2,a4⟩:=Tab.ok e r' he;have hu:=AR ht hr;have a5:r'.zero.cells.size=r'.size:=Ab4 hz;have a1:news.length=m*r'.size:=Ab4 hl;have a6:0<m:=Abq hm;have key:∃v' w',(Builtin.append_ #[t,t] T #[.slice p k k,.slice (some ⟨b,0,none⟩) m c]).run P w=.ok v' w'∧Ai w w'∧Own w' lo e r'.size v' (k+m) (xs++news):=by
  rcases hp with ⟨rfl,rfl⟩ | ⟨a,rfl,hc⟩
  ·have a7:xs=[]:=by cases xs with
    | nil=>rfl
    | cons a b=>simp at hxl
   subst a7;obtain⟨v',w',e1,e2,e3,_⟩:=UC (c:=c) ht hr he hz (Own.nil w lo e r'.size) hlo hB a1 Aem a6 AdE AdE T;exact⟨v',w',e1,e2.mono Aet,e3⟩
  ·have a0:=run_append_grow (P:=P) w t T e i r'.zero hu hi a3 a k k xs (by rw[a2];exact hxl) hc ⟨b,0,none⟩ m c news (by rw[a2];exact a1) hB.getElem AdE AdE (by rw[a4];exact growslice_fits AdE AdE);refine⟨_,_,a0,((Ai.drew w).trans (Ai.alloc _ _)).mono AdM,⟨by simp[hxl,a1,Acg],.inr ⟨w.heap.size,_,(Builtin.zeroCells r'.zero.cells (grownCap w (k+m) k e - (k+m))).toList,rfl,?_,grownCap_ge w (k+m) k e,?_,hlo⟩⟩⟩
   ·have:=Blk.alloc w.drew (xs++news++(Builtin.zeroCells r'.zero.cells (grownCap w (k+m) k e - (k+m))).toList) e;have ea:xs.toArray++news.toArray++Builtin.zeroCells r'.zero.cells (grownCap w (k+m) k e - (k+m))=(⟨xs++news++(Builtin.zeroCells r'.zero.cells (grownCap w (k+m) k e - (k+m))).toList⟩:Array Value):=by
     apply Acv;simp
    rw[ea];exact this
   ·rw[CL,a5]
 obtain⟨v',w',a0,hc,ho⟩:=key;refine LW.val (w':=w') (v:=v') rfl rfl hn (λa ha=>?_) (h v' w' hc ho);unfold execOp;simp only[resolve,invoke,builtin,AaU,Abp,AaG,AbW,AbK,Acm,ha.eval hx,ha.eval hy,a0]
end
def HW(P:Program)(S:World→Prop)(l:List Oper)(Q:Exit→Act→World→Prop)(f:Nat)(listed:List Bool)(D:List Deferred)(n:Nat)(E:BW)(w:World):Prop:=
 ∀a,Holds a D n E→S w→wpAnyH P .any l.toArray Q S f ⟨listed⟩ a w
section
variable {S:World→Prop} {Q:Exit→Act→World→Prop} {D:List Deferred} {n f:Nat} {E:BW} {w:World} {l:List Oper} {ls:List Bool}
theorem CW.drawHeld{t:Nat}(S:World→Prop)(hS:∀w',Ai w w'→S w')(hm:P.follows .mixedOrders=true)(h:∀w',Ai w w'→HW P S l Q l.length (List.replicate l.length false) D n E w'):CW P (.region t l.toArray true) Q D n E w:=by
 unfold CW;exact λa ha=>wp_region_held (S:=S) hm (by
  have:=h _ (Ai.drew w) a ha (hS _ (Ai.drew w));have e:(⟨List.replicate l.length false⟩:Array Bool)=Array.replicate l.toArray.size false:=AdM
  rw[e] at this
  simpa using this)
theorem Ei(ls:List Bool)(i:Nat):(⟨ls⟩:Array Bool).setIfInBounds i true=⟨ls.set i true⟩:=by apply Acv;simp
theorem HW.know{t:Nat}{b c:Bool}(ht:look E t=some (.bool b))(hb:b=c)(h:HW P S l Q f ls D n ((t,.bool c)::E) w):HW P S l Q f ls D n E w:=λa ha=>h a (ha.sub (Al.know ht hb))
theorem HW.take(i:Nat){o:Oper}{v:Value}{d:Nat}{ls':List Bool}(hi:l[i]?=some o)(hg:o.guard=none)(hd:o.dst=some d)(hn:Nat.blt d n=true)(hy:∀w,S w→Y P D n E w o v)(hl:ls.set i true=ls')(hs:Region.noSelect l.toArray=true)
  (hf:Region.free .any l.toArray ⟨ls⟩ i=true) (hr:(Region.ready .any l.toArray ⟨ls⟩).contains i=true) (ht:∀c a w,Q (.panic c) (a.put o.dst v) w→Q (.panic c) a w)
  (h:HW P S l Q f ls' D n ((d,v)::E) w):HW P S l Q (f+1) ls D n E w:=λa ha hS=>by
 subst hl;refine wpAnyH_take (oi:=o) (v:=v) Aep hs hf hr ht (.inl ⟨by simp[Region.wanted,hg],λw hw=>hy w hw a ha⟩) hS ?_;rw[Ei,hd];exact h _ (ha.put d v hn) hS
theorem HW.takeW(i:Nat){op:Op}{T:TypeId}{pos:String}{af:Array Edge}{v:Value}{d j t:Nat}{b:Bool}{ls':List Bool}(hi:l[i]?=some ⟨some d,op,T,pos,af,some (j,b)⟩)(hn:Nat.blt d n=true)(hj:BM l j=some t)(hb:look E t=some (.bool b))
  (hy:∀w,S w→Y P D n E w ⟨some d,op,T,pos,af,none⟩ v) (hl:ls.set i true=ls') (hs:Region.noSelect l.toArray=true)
  (hf:Region.free .any l.toArray ⟨ls⟩ i=true) (hr:(Region.ready .any l.toArray ⟨ls⟩).contains i=true) (ht:∀c a w,Q (.panic c) (a.put (some d) v) w→Q (.panic c) a w)
  (h:HW P S l Q f ls' D n ((d,v)::E) w):HW P S l Q (f+1) ls D n E w:=λa ha hS=>by
 subst hl;have hyy:=Ds (l:=l) ha hj hb;refine wpAnyH_take (oi:=⟨some d,op,T,pos,af,some (j,b)⟩) (v:=v) Aep hs hf hr ht (.inl ⟨by simp[Region.wanted,hyy],λw hw=>hy w hw a ha⟩) hS ?_;rw[Ei];exact h _ (ha.put d v hn) hS
theorem HW.skip(i:Nat){o:Oper}{d j t:Nat}{b c:Bool}{ls':List Bool}(hi:l[i]?=some o)(hg:o.guard=some (j,b))(hd:o.dst=some d)(hn:Nat.blt d n=true)(hj:BM l j=some t)(hb:look E t=some (.bool c))(hne:(c == b)=false)(hl:ls.set i true=ls')(hs:Region.noSelect l.toArray=true)
  (hf:Region.free .any l.toArray ⟨ls⟩ i=true) (hr:(Region.ready .any l.toArray ⟨ls⟩).contains i=true) (ht:∀c a w,Q (.panic c) (a.put o.dst undef) w→Q (.panic c) a w)
  (h:HW P S l Q f ls' D n ((d,undef)::E) w):HW P S l Q (f+1) ls D n E w:=λa ha hS=>by
 subst hl;have hyy:=Ds (l:=l) ha hj hb;have hw:Region.wanted o (yielded l.toArray a.tmps)=false:=by
  simp only[Region.wanted,hg,hyy];cases c<;>cases b<;>first | rfl | cases hne
 refine wpAnyH_take (oi:=o) (v:=undef) Aep hs hf hr ht (.inr ⟨hw,rfl⟩) hS ?_;rw[Ei,hd];exact h _ (ha.put d _ hn) hS
theorem HW.one(i:Nat){o:Oper}{ls':List Bool}(hr:Region.ready .any l.toArray ⟨ls⟩=[i])(hi:l[i]?=some o)(hl:ls.set i true=ls')(h:S w→LW P l (Exit.then (λa w'=>S w'∧wpAnyH P .any l.toArray Q S f ⟨ls'⟩ a w') Q) [o] D n E w):HW P S l Q (f+1) ls D n E w:=λa ha hS=>by
 subst hl;refine wpAnyH_all hr AdM λj hj=>?_;simp only[Aad] at hj;subst hj;have h0:=h hS;unfold LW at h0;have h1:=h0 a ha;rw[Ei];have hi':l.toArray[j]?=some o:=by simpa using hi
 unfold wpOp;simp only[hi'];unfold wpList at h1
 split
 ·rename_i hw;rw[if_pos hw] at h1;exact h1.imp Mi (λhh=>hh)
 ·rename_i hw;rw[if_neg hw] at h1;unfold wpList at h1;exact h1
theorem QW.held{Q':Exit→Act→World→Prop}(hS:S w)(h:HW P S l Q f ls D n E w):QW (Exit.then (λa w'=>S w'∧wpAnyH P .any l.toArray Q S f ⟨ls⟩ a w') Q') .normal D n E w:=by
 unfold QW;exact λa ha=>⟨hS,h a ha hS⟩
theorem HW.done(hr:Region.ready .any l.toArray ⟨ls⟩=[])(h:QW Q .normal D n E w):HW P S l Q f ls D n E w:=by
 unfold QW at h;exact λa ha _=>wpAnyH_done hr (h a ha) f
end
def BC:List Bool→Nat
 | []=>0
 | false::_=>0
 | true::r=>BC r+1
section
variable {S:World→Prop} {Q:Exit→Act→World→Prop} {D:List Deferred} {n f d j t:Nat} {E:BW} {w:World} {l:List Oper} {ls ls':List Bool} {o:Oper} {v:Value} {op:Op} {T:TypeId} {pos:String} {af:Array Edge}
theorem Ha[Tab P](h:HW P S l Q f ls' D n ((d,v)::E) w)(hi:l[BC ls]?=some ⟨some d,op,T,pos,af,none⟩:=by exact rfl)(hn:Nat.blt d n=true:=by exact rfl)(hv:Gk P E op=some v:=by exact rfl)(hl:ls.set (BC ls) true=ls':=by exact rfl)(hs:Region.noSelect l.toArray=true:=by kernel_rfl)
  (hf:Region.free .any l.toArray ⟨ls⟩ (BC ls)=true:=by kernel_rfl) (hr:(Region.ready .any l.toArray ⟨ls⟩).contains (BC ls)=true:=by kernel_rfl) (ht:∀c a w,Q (.panic c) (a.put (some d) v) w→Q (.panic c) a w:=by exact λ_ _ _ h=>h):HW P S l Q (f+1) ls D n E w:=HW.take _ hi rfl rfl hn (λ_ _=>Y.pure hv) hl hs hf hr ht h
theorem Hl[Tab P]{u T':TypeId}{x:Operand}{k i:Nat}{L:List Value}{r:TRow}(h:HW P S l Q f ls' D n ((d,v)::E) w)(hi:l[BC ls]?=some ⟨some d,.load u x,T,pos,af,none⟩:=by exact rfl)(hn:Nat.blt d n=true:=by exact rfl)(hx:ev E x=some (.pointer (some ⟨k,i,none⟩)):=by exact rfl)(hB:∀w,S w→Blk w k L T':=by first | exact λw hw=>hw | exact λw hw=>Blk.ext AdR hw)(a0:L[i]?=some v:=by exact rfl)(hu:Tab.row P u=some r:=by exact rfl)(a1:Be r.desc=false:=by exact rfl)(hl:ls.set (BC ls) true=ls':=by exact rfl)(hs:Region.noSelect l.toArray=true:=by kernel_rfl)
  (hf:Region.free .any l.toArray ⟨ls⟩ (BC ls)=true:=by kernel_rfl) (hr:(Region.ready .any l.toArray ⟨ls⟩).contains (BC ls)=true:=by kernel_rfl) (ht:∀c a w,Q (.panic c) (a.put (some d) v) w→Q (.panic c) a w:=by exact λ_ _ _ h=>h):HW P S l Q (f+1) ls D n E w:=HW.take _ hi rfl rfl hn (λw hw=>Y.load hx (hB w hw) a0 hu a1) hl hs hf hr ht h
theorem Hg[Tab P]{u T':TypeId}{x:Operand}{k:Nat}{L:List Value}{r:TRow}(h:HW P S l Q f ls' D n ((d,.agg ⟨L⟩)::E) w)(hi:l[BC ls]?=some ⟨some d,.load u x,T,pos,af,none⟩:=by exact rfl)(hn:Nat.blt d n=true:=by exact rfl)(hx:ev E x=some (.pointer (some ⟨k,0,none⟩)):=by exact rfl)(hB:∀w,S w→Blk w k L T':=by first | exact λw hw=>hw | exact λw hw=>Blk.ext AdR hw)(hu:Tab.row P u=some r:=by exact rfl)(a0:Be r.desc=true:=by exact rfl)(hz:Nat.beq r.size L.length=true:=by exact rfl)(hl:ls.set (BC ls) true=ls':=by exact rfl)(hs:Region.noSelect l.toArray=true:=by kernel_rfl)
  (hf:Region.free .any l.toArray ⟨ls⟩ (BC ls)=true:=by kernel_rfl) (hr:(Region.ready .any l.toArray ⟨ls⟩).contains (BC ls)=true:=by kernel_rfl) (ht:∀c a w,Q (.panic c) (a.put (some d) (.agg ⟨L⟩)) w→Q (.panic c) a w:=by exact λ_ _ _ h=>h):HW P S l Q (f+1) ls D n E w:=HW.take _ hi rfl rfl hn (λw hw=>Y.load_all hx (hB w hw) hu a0 hz) hl hs hf hr ht h
theorem Hc[Tab P]{C:Prop}(h:HW P S l Q f ls' D n ((d,v)::E) w)(hi:l[BC ls]?=some ⟨some d,op,T,pos,af,none⟩:=by exact rfl)(hn:Nat.blt d n=true:=by exact rfl)(hv:Zb P E op=some (v,C):=by exact rfl)(hC:C:=by first | omega | exact⟨by omega,by omega⟩ | exact⟨by omega,by omega,by omega⟩ | (simp<;>omega))(hl:ls.set (BC ls) true=ls':=by exact rfl)(hs:Region.noSelect l.toArray=true:=by kernel_rfl)
  (hf:Region.free .any l.toArray ⟨ls⟩ (BC ls)=true:=by kernel_rfl) (hr:(Region.ready .any l.toArray ⟨ls⟩).contains (BC ls)=true:=by kernel_rfl) (ht:∀c a w,Q (.panic c) (a.put (some d) v) w→Q (.panic c) a w:=by exact λ_ _ _ h=>h):HW P S l Q (f+1) ls D n E w:=HW.take _ hi rfl rfl hn (λ_ _=>Y.go hv hC) hl hs hf hr ht h
theorem Hwa[Tab P](h:HW P S l Q f ls' D n ((d,v)::E) w){b:Bool}(hi:l[BC ls]?=some ⟨some d,op,T,pos,af,some (j,b)⟩:=by exact rfl)(hn:Nat.blt d n=true:=by exact rfl)(hj:BM l j=some t:=by exact rfl)(hb:look E t=some (.bool b):=by exact rfl)(hv:Gk P E op=some v:=by exact rfl)(hl:ls.set (BC ls) true=ls':=by exact rfl)(hs:Region.noSelect l.toArray=true:=by kernel_rfl)
  (hf:Region.free .any l.toArray ⟨ls⟩ (BC ls)=true:=by kernel_rfl) (hr:(Region.ready .any l.toArray ⟨ls⟩).contains (BC ls)=true:=by kernel_rfl) (ht:∀c a w,Q (.panic c) (a.put (some d) v) w→Q (.panic c) a w:=by exact λ_ _ _ h=>h):HW P S l Q (f+1) ls D n E w:=HW.takeW _ hi hn hj hb (λ_ _=>Y.pure hv) hl hs hf hr ht h
theorem Hwl[Tab P]{u T':TypeId}{x:Operand}{k i:Nat}{L:List Value}{r:TRow}(h:HW P S l Q f ls' D n ((d,v)::E) w){b:Bool}(hi:l[BC ls]?=some ⟨some d,.load u x,T,pos,af,some (j,b)⟩:=by exact rfl)(hn:Nat.blt d n=true:=by exact rfl)(hj:BM l j=some t:=by exact rfl)(hb:look E t=some (.bool b):=by exact rfl)(hx:ev E x=some (.pointer (some ⟨k,i,none⟩)):=by exact rfl)(hB:∀w,S w→Blk w k L T':=by first | exact λw hw=>hw | exact λw hw=>Blk.ext AdR hw)(a0:L[i]?=some v:=by exact rfl)(hu:Tab.row P u=some r:=by exact rfl)(a1:Be r.desc=false:=by exact rfl)(hl:ls.set (BC ls) true=ls':=by exact rfl)(hs:Region.noSelect l.toArray=true:=by kernel_rfl)
  (hf:Region.free .any l.toArray ⟨ls⟩ (BC ls)=true:=by kernel_rfl) (hr:(Region.ready .any l.toArray ⟨ls⟩).contains (BC ls)=true:=by kernel_rfl) (ht:∀c a w,Q (.panic c) (a.put (some d) v) w→Q (.panic c) a w:=by exact λ_ _ _ h=>h):HW P S l Q (f+1) ls D n E w:=HW.takeW _ hi hn hj hb (λw hw=>Y.load hx (hB w hw) a0 hu a1) hl hs hf hr ht h
theorem Hwg[Tab P]{u T':TypeId}{x:Operand}{k:Nat}{L:List Value}{r:TRow}(h:HW P S l Q f ls' D n ((d,.agg ⟨L⟩)::E) w){b:Bool}(hi:l[BC ls]?=some ⟨some d,.load u x,T,pos,af,some (j,b)⟩:=by exact rfl)(hn:Nat.blt d n=true:=by exact rfl)(hj:BM l j=some t:=by exact rfl)(hb:look E t=some (.bool b):=by exact rfl)(hx:ev E x=some (.pointer (some ⟨k,0,none⟩)):=by exact rfl)(hB:∀w,S w→Blk w k L T':=by first | exact λw hw=>hw | exact λw hw=>Blk.ext AdR hw)(hu:Tab.row P u=some r:=by exact rfl)(a0:Be r.desc=true:=by exact rfl)(hz:Nat.beq r.size L.length=true:=by exact rfl)(hl:ls.set (BC ls) true=ls':=by exact rfl)(hs:Region.noSelect l.toArray=true:=by kernel_rfl)
  (hf:Region.free .any l.toArray ⟨ls⟩ (BC ls)=true:=by kernel_rfl) (hr:(Region.ready .any l.toArray ⟨ls⟩).contains (BC ls)=true:=by kernel_rfl) (ht:∀c a w,Q (.panic c) (a.put (some d) (.agg ⟨L⟩)) w→Q (.panic c) a w:=by exact λ_ _ _ h=>h):HW P S l Q (f+1) ls D n E w:=HW.takeW _ hi hn hj hb (λw hw=>Y.load_all hx (hB w hw) hu a0 hz) hl hs hf hr ht h
theorem Hwc[Tab P]{C:Prop}(h:HW P S l Q f ls' D n ((d,v)::E) w){b:Bool}(hi:l[BC ls]?=some ⟨some d,op,T,pos,af,some (j,b)⟩:=by exact rfl)(hn:Nat.blt d n=true:=by exact rfl)(hj:BM l j=some t:=by exact rfl)(hb:look E t=some (.bool b):=by exact rfl)(hv:Zb P E op=some (v,C):=by exact rfl)(hC:C:=by first | omega | exact⟨by omega,by omega⟩ | exact⟨by omega,by omega,by omega⟩ | (simp<;>omega))(hl:ls.set (BC ls) true=ls':=by exact rfl)(hs:Region.noSelect l.toArray=true:=by kernel_rfl)
  (hf:Region.free .any l.toArray ⟨ls⟩ (BC ls)=true:=by kernel_rfl) (hr:(Region.ready .any l.toArray ⟨ls⟩).contains (BC ls)=true:=by kernel_rfl) (ht:∀c a w,Q (.panic c) (a.put (some d) v) w→Q (.panic c) a w:=by exact λ_ _ _ h=>h):HW P S l Q (f+1) ls D n E w:=HW.takeW _ hi hn hj hb (λ_ _=>Y.go hv hC) hl hs hf hr ht h
theorem Hs{b c:Bool}(h:HW P S l Q f ls' D n ((d,undef)::E) w)(hi:l[BC ls]?=some o:=by exact rfl)(hg:o.guard=some (j,b):=by exact rfl)(hd:o.dst=some d:=by exact rfl)(hn:Nat.blt d n=true:=by exact rfl)(hj:BM l j=some t:=by exact rfl)(hb:look E t=some (.bool c):=by exact rfl)(a0:(c == b)=false:=by exact rfl)(hl:ls.set (BC ls) true=ls':=by exact rfl)(hs:Region.noSelect l.toArray=true:=by kernel_rfl)
  (hf:Region.free .any l.toArray ⟨ls⟩ (BC ls)=true:=by kernel_rfl) (hr:(Region.ready .any l.toArray ⟨ls⟩).contains (BC ls)=true:=by kernel_rfl) (ht:∀c a w,Q (.panic c) (a.put o.dst undef) w→Q (.panic c) a w:=by exact λ_ _ _ h=>h):HW P S l Q (f+1) ls D n E w:=HW.skip _ hi hg hd hn hj hb a0 hl hs hf hr ht h
end
attribute [irreducible] HW
theorem Sh{G G':Prop}(h:G')(hi:Hd G'→G:=by intro h;(repeat (first | refine Ha ?_ | refine Hs ?_ | refine Hwa ?_ | refine Hl ?_ | refine Hwl ?_ | refine Hg ?_ | refine Hwg ?_ | refine Hc ?_ | refine Hwc ?_));exact h.h):G:=hi ⟨h⟩
end Go.E
namespace Go.E
open Go
section
variable {P:Program} {Q:Exit→Act→World→Prop} {D:List Deferred} {n:Nat} {E:BW} {w:World} {l rest:List Oper} [Tab P] {x y:Operand} {s f d T k t e:Nat} {pos:String} {af:Array Edge} {a0:Addr} {r r':TRow} {v:Value}
theorem Y.field_addr(hx:ev E x=some (.pointer (some a0)))(hk:Vn P s f=some k):Y P D n E w ⟨some d,.fieldAddr s x f,T,pos,af,none⟩ (.pointer (some (a0.add k))):=λa ha=>by
 unfold Vn at hk
 split at hk<;>try cases hk
 rename_i r hr
 split at hk<;>try cases hk
 rename_i fs hfs
 split at hk<;>try cases hk
 rename_i fld hfld
 split at hk<;>try cases hk
 rename_i r' hr';cases hz:Nat.beq r'.size 0<;>rw[hz] at hk<;>simp only[cond_true,cond_false,reduceCtorEq,Aar] at hk;have hne:¬r'.size=0:=λh0=>by rw[h0] at hz;cases hz
 obtain⟨gs,hgs,hgf⟩:=Ek hr hfs;have hfld':∃g,gs[f]?=some g∧bareF g=fld:=by
  rw[←hgf] at hfld
  simpa using hfld
 obtain⟨g,a1,a2⟩:=hfld';subst a2;have a3:Tab.row P g.type=some r':=hr';have a4:g.offset=k:=hk;simp only[execOp,Instr.fieldAt,ha.eval hx,AaU,run_underlying hgs,AaG,a1,Instr.sureAddr,Abp,fieldPlace,Co a3,hne,if_false];rw[a4]
theorem Ln(h:LW P l Q rest D n ((d,.pointer (some (a0.add k)))::E) w)(hx:ev E x=some (.pointer (some a0)):=by exact rfl)(hk:Vn P s f=some k:=by exact rfl)(hn:Nat.blt d n=true:=by exact rfl):LW P l Q (⟨some d,.fieldAddr s x f,T,pos,af,none⟩::rest) D n E w:=LW.val rfl rfl hn (Y.field_addr hx hk) h
theorem Lo{kk:IntKind}{i:Int}{len cap:Nat}(h:LW P l Q rest D n ((d,.pointer (some (a0.add (i.toNat*r'.size))))::E) w)(hx:ev E x=some (.slice (some a0) len cap):=by exact rfl)(hi:ev E y=some (.int kk i):=by exact rfl)(ht:Tab.row P t=some r:=by exact rfl)(hr:r.desc=.slice e:=by exact rfl)(he:Tab.row P e=some r':=by exact rfl)(h0:0≤i:=by omega)(h1:i<len:=by omega)(hn:Nat.blt d n=true:=by exact rfl):LW P l Q (⟨some d,.indexAddr t x y,T,pos,af,none⟩::rest) D n E w:=LW.idx_addr hx hi ht hr he h0 h1 hn h
theorem Lp(hc:w.cell? a0=some v)(h:LW P l Q rest D n ((d,v)::E) w)(hx:ev E x=some (.pointer (some a0)):=by exact rfl)(ht:Tab.row P t=some r:=by exact rfl)(hr:Be r.desc=false:=by exact rfl)(hn:Nat.blt d n=true:=by exact rfl):LW P l Q (⟨some d,.load t x,T,pos,af,none⟩::rest) D n E w:=LW.load_cell hx hc ht hr hn h
end
end Go.E
namespace Go.E
open Go
section
variable {P:Program} [Tab P] {w:World} {lo:Nat} {t e:TypeId} {r r':TRow}
theorem LG(ht:Tab.row P t=some r)(hr:r.desc=.slice e)(he:Tab.row P e=some r')(hz:Nat.beq r'.zero.cells.size r'.size=true){tx:TypeId}{x:Value}
  {v:Value} {n m:Nat} {xs news:List Value} (hown:Own w lo e r'.size v n xs) (hlo:lo≤w.heap.size) (hs:Src P r'.size tx x m news w) (h63:n+m≤9223372036854775807) (hby:(n+m)*r'.bytes≤140737488355328) (ty:TypeId) :
  ∃v' w',(Builtin.append_ #[t,tx] ty #[v,x]).run P w=.ok v' w'∧Chg (Ac v) w w'∧Own w' lo e r'.size v' (n+m) (xs++news)∧(∀k,k∈Ac v'→k∈Ac v∨w.heap.size≤k):=by
 obtain⟨d,hd,hb,i,hi,a7,a4,a8⟩:=Tab.ok e r' he;have hu:=AR ht hr;have a9:r'.zero.cells.size=r'.size:=Ab4 hz;have hl:=hs.newsLen;have h1:=hs.one;have a2:Src P i.size tx x m news w:=by rw[a4];exact hs
 obtain⟨a3,⟨rfl,rfl⟩ | ⟨g,cap,sp,rfl,hG,h2,h3,h4⟩⟩:=hown
 ·have hx:xs=[]:=by cases xs with
   | nil=>rfl
   | cons a b=>simp at a3
  subst hx;rcases AcW m with rfl | hm
  ·have hn:news=[]:=by cases news with
    | nil=>rfl
    | cons a b=>simp at hl
   subst hn;exact⟨_,_,run_append_nothing w t tx ty e i hu hi none 0 0 AdE x a2,Chg.refl _ _,Own.nil _ _ _ _,λk hk=>.inl hk⟩
  ·have a0:=run_append_grow_src (P:=P) w t tx ty e i r'.zero hu hi a7 none 0 0 [] (run_firstCells_none w.drew i.size 0 0 0) x m news a2 AdE AdE (by rw[a8];exact growslice_fits AdE hby);simp only[AbC] at a0;refine⟨_,_,a0,?_,?_,?_⟩
   ·exact(Ai.drew w).trans (Ai.alloc _ _)
   ·refine⟨by simp[hl],.inr ⟨w.heap.size,_,(Builtin.zeroCells r'.zero.cells (grownCap w m 0 e - m)).toList,by rw[AbC],?_,?_,?_,hlo⟩⟩
    ·have:=Blk.alloc w.drew (news++(Builtin.zeroCells r'.zero.cells (grownCap w m 0 e - m)).toList) e;have ea:([]++news).toArray++Builtin.zeroCells r'.zero.cells (grownCap w m 0 e - m)=(⟨news++(Builtin.zeroCells r'.zero.cells (grownCap w m 0 e - m)).toList⟩:Array Value):=by
      apply Acv;simp
     rw[ea];exact this
    ·have:=grownCap_ge w m 0 e;omega
    ·rw[CL,a9,AbC]
   ·intro k hk;simp[Ac] at hk;exact .inr AdE
 ·by_cases a1:n+m≤cap
  ·have a5:n*i.size+news.length≤(⟨xs++sp⟩:Array Value).size:=by
    rw[a4,hl,←a3];simp only[Ad0,Aaq,h3];have:m*r'.size≤(cap - n)*r'.size:=AcM _ AdE;omega
   have a6:=run_storeCells_at P g (n*i.size) e news 0 ⟨xs++sp⟩ w hG (by simpa using a5) h1;simp only[AbZ] at a6;have e1:((⟨xs++sp⟩:Array Value).toList.take (n*i.size)++news++(⟨xs++sp⟩:Array Value).toList.drop (n*i.size+news.length))=xs++news++sp.drop news.length:=by
    rw[a4,←a3];simp
   rw[e1] at a6;have a0:(Builtin.append_ #[t,tx] ty #[.slice (some ⟨g,0,none⟩) n cap,x]).run P w=.ok (.slice (some ⟨g,0,none⟩) (n+m) cap) (w.setRow g (xs++news++sp.drop news.length).toArray):=by
    rcases a2.kind with ⟨e',hk⟩ | hk<;>simp[Builtin.append_,run_underlying hu,run_underlying hk,sizeOf,typeInfo,hi,a2.len,a1,a2.cells,Addr.add_lit,a6]
   refine⟨_,_,a0,Chg.setRow _ _ _,⟨by simp[a3,hl,Acg],.inr ⟨g,cap,sp.drop news.length,rfl,hG.setRow _,a1,?_,h4⟩⟩,?_⟩
   ·rw[Acq,h3,hl,←Nat.sub_mul]
    congr 1
    omega
   ·intro k hk;exact .inl hk
  ·have hg:cap<n+m:=AdE
   have a0:=run_append_grow_src (P:=P) w t tx ty e i r'.zero hu hi a7 (some ⟨g,0,none⟩) n cap xs (run_firstCells_some w.drew i.size n ⟨g,0,none⟩ n cap xs (by rw[a4];exact a3) (λj u hj=>by
     have:=hG.getElem j u (by rw[Abk (Abg.1 hj).1];exact hj)
     simpa using this)) x m news a2 hg AdE (by rw[a8];exact growslice_fits hg hby)
   refine⟨_,_,a0,?_,?_,?_⟩
   ·exact((Ai.drew w).trans (Ai.alloc _ _)).mono AdM
   ·refine⟨by simp[a3,hl,Acg],.inr ⟨w.heap.size,_,(Builtin.zeroCells r'.zero.cells (grownCap w (n+m) cap e - (n+m))).toList,rfl,?_,grownCap_ge w (n+m) cap e,?_,hlo⟩⟩
    ·have:=Blk.alloc w.drew (xs++news++(Builtin.zeroCells r'.zero.cells (grownCap w (n+m) cap e - (n+m))).toList) e;have ea:(xs++news).toArray++Builtin.zeroCells r'.zero.cells (grownCap w (n+m) cap e - (n+m))=(⟨xs++news++(Builtin.zeroCells r'.zero.cells (grownCap w (n+m) cap e - (n+m))).toList⟩:Array Value):=by
      apply Acv;simp
     rw[ea];exact this
    ·rw[CL,a9]
   ·intro k hk;simp[Ac] at hk;exact .inr AdE
variable {Q:Exit→Act→World→Prop} {D:List Deferred} {n:Nat} {E:BW} {l rest:List Oper} {x y:Operand} {d T:Nat} {pos:String} {af:Array Edge}
theorem LW.append_str{v:Value}{k:Nat}{xs:List Value}{s:List UInt8}{tx:TypeId}{rx:TRow}(hx:ev E x=some v)(hy:ev E y=some (Ao s))(ht:Tab.row P t=some r)(hr:r.desc=.slice e)(he:Tab.row P e=some r')(hz:Nat.beq r'.zero.cells.size r'.size=true)(hsz:Nat.beq r'.size 1=true)(htx:Tab.row P tx=some rx)(hrx:rx.desc=.string)
  (hown:Own w lo e 1 v k xs) (hlo:lo≤w.heap.size) (hby:(k+s.length)*(r'.bytes+1)≤140737488355328) (hn:Nat.blt d n=true)
  (h:∀v' w',Chg (Ac v) w w'→Own w' lo e 1 v' (k+s.length) (xs++AK s)→(∀j,j∈Ac v'→j∈Ac v∨w.heap.size≤j)→LW P l Q rest D n ((d,v')::E) w') :
  LW P l Q (⟨some d,.call {callee:=.builtin .append,args:=#[x,y],argTypes:=#[t,tx]},T,pos,af,none⟩::rest) D n E w:=by
 have h2:(k+s.length)*(r'.bytes+1)=(k+s.length)*r'.bytes+(k+s.length):=by rw[AdD,Acr]
 have h1:r'.size=1:=Ab4 hsz;have hu:P.underlying tx=some .string:=by
  obtain⟨dd,hh,hb,_⟩:=B4 htx;cases dd<;>simp[bare,hrx] at hb;exact hh
 have a0:Src P r'.size tx (Ao s) s.length (AK s) w:=by
  rw[h1];exact Src.ofString w hu ⟨⟨s⟩⟩
 obtain⟨v',w',a1,hc,ho,hv⟩:=LG ht hr he hz (by rw[h1];exact hown) hlo a0 AdE AdE T;rw[h1] at ho;refine LW.val (w':=w') (v:=v') rfl rfl hn (λa ha=>?_) (h v' w' hc ho hv);unfold execOp;simp only[resolve,invoke,builtin,AaU,Abp,AaG,AbW,AbK,Acm,ha.eval hx,ha.eval hy,a1]
end
section
variable {P:Program} {Q:Exit→Act→World→Prop} {D:List Deferred} {n:Nat} {E:BW} {w:World} {l rest:List Oper} [Tab P] {x y:Operand} {s f d T k t e:Nat} {pos:String} {af:Array Edge} {a0:Addr} {r r':TRow} {v:Value}
theorem BH{w w':World}(h:Ai w w'){a:Addr}{v:Value}(hc:w.cell? a=some v):w'.cell? a=some v:=by
 have a0:=AbO w a hc;rw[(Ai.toBelow h).cell a0];exact hc
theorem Qn(h:QL P l Q rest D n ((d,.pointer (some (a0.add k)))::E) w)(hx:ev E x=some (.pointer (some a0)):=by exact rfl)(hk:Vn P s f=some k:=by exact rfl)(hn:Nat.blt d n=true:=by exact rfl):QL P l Q (⟨some d,.fieldAddr s x f,T,pos,af,none⟩::rest) D n E w:=QL.yields rfl rfl hn (λ_ _=>Y.field_addr hx hk) h
theorem Qo{kk:IntKind}{i:Int}{len cap:Nat}(h:QL P l Q rest D n ((d,.pointer (some (a0.add (i.toNat*r'.size))))::E) w)(hx:ev E x=some (.slice (some a0) len cap):=by exact rfl)(hi:ev E y=some (.int kk i):=by exact rfl)(ht:Tab.row P t=some r:=by exact rfl)(hr:r.desc=.slice e:=by exact rfl)(he:Tab.row P e=some r':=by exact rfl)(h0:0≤i:=by omega)(h1:i<len:=by omega)(hn:Nat.blt d n=true:=by exact rfl):QL P l Q (⟨some d,.indexAddr t x y,T,pos,af,none⟩::rest) D n E w:=QL.yields rfl rfl hn (λ_ _=>Y.idx_addr hx hi ht hr he h0 h1) h
end
end Go.E
namespace Go.E
open Go
section
variable {P:Program} [Tab P] {w:World} {lo:Nat} {t e:TypeId} {r r':TRow} {Q:Exit→Act→World→Prop} {D:List Deferred} {n:Nat} {E:BW} {l rest:List Oper} {x y:Operand} {d T:Nat} {pos:String} {af:Array Edge}
omit [Tab P] in
theorem LW.min2{k k':IntKind}{p q:Int}{ts:Array TypeId}(hx:ev E x=some (.int k p))(hy:ev E y=some (.int k' q))(hn:Nat.blt d n=true)(h:LW P l Q rest D n ((d,.int k (if q<p then q else p))::E) w) :
  LW P l Q (⟨some d,.call ⟨.builtin .min,#[x,y],ts⟩,T,pos,af,none⟩::rest) D n E w:=by
 refine LW.val rfl rfl hn (λa ha=>?_) h;unfold execOp;simp[resolve,invoke,builtin,ha.eval hx,ha.eval hy,Builtin.min_,Builtin.min2]
theorem LW.buildSlice0(ht:Tab.row P t=some r)(hr:r.desc=.slice e)(he:Tab.row P e=some r')(hn:Nat.blt d n=true)
  (h:∀b w',b=w.heap.size→Ai w w'→Blk w' b [] e→LW P l Q rest D n ((d,.slice (some ⟨b,0,none⟩) 0 0)::E) w') :
  LW P l Q (⟨some d,.buildSlice t 0 #[],T,pos,af,none⟩::rest) D n E w:=by
 have e3:(Instr.buildSlice t 0 #[]).run P w=.ok (.slice (some ⟨w.heap.size,0,none⟩) 0 0) (w.alloc (.cells ⟨[]⟩ e)):=by
  unfold Instr.buildSlice;simp only[AaU,run_underlying (AR ht hr),AaG,Co he,Ade,if_true];have e5:(Array.map (λx=>(#[]:Array Value)[x % (#[]:Array Value).size]!) (Array.range 0))=⟨[]⟩:=AdM
  rw[if_neg AdH];simp only[AaU,Abp,AaG];rw[e5];rfl
 refine LW.val (w':=w.alloc (.cells ⟨[]⟩ e)) rfl rfl hn (λa ha=>?_) (h _ _ rfl (Ai.alloc ..) (Blk.alloc ..));have e4:(execOp a.eval ⟨some d,.buildSlice t 0 #[],T,pos,af,none⟩)=(do Pure.pure (Next.value (←Instr.buildSlice t 0 ((#[]:Array (Nat×Operand)).map (λx=>(x.1,a.eval x.2)))))):=rfl;rw[e4,show((#[]:Array (Nat×Operand)).map (λx=>(x.1,a.eval x.2)))=#[] from by simp,AaU,e3];rfl
theorem LW.append_any{v:Value}{k m c:Nat}{p:Option Addr}{xs news:List Value}(hx:ev E x=some v)(hy:ev E y=some (.slice p m c))(ht:Tab.row P t=some r)(hr:r.desc=.slice e)(he:Tab.row P e=some r')(hz:Nat.beq r'.zero.cells.size r'.size=true)
  (hown:Own w lo e r'.size v k xs) (hlo:lo≤w.heap.size) (hl:news.length=m*r'.size) (hp:p=none∧m=0∨∃a,p=some a∧∀j u,news[j]?=some u→w.cell? (a.add j)=some u) (h1:∀u∈news,u.oneCell'=true) (hby:(k+m)*(r'.bytes+1)≤140737488355328) (hn:Nat.blt d n=true)
  (h:∀v' w',Chg (Ac v) w w'→Own w' lo e r'.size v' (k+m) (xs++news)→(∀j,j∈Ac v'→j∈Ac v∨w.heap.size≤j)→LW P l Q rest D n ((d,v')::E) w') :
  LW P l Q (⟨some d,.call {callee:=.builtin .append,args:=#[x,y],argTypes:=#[t,t]},T,pos,af,none⟩::rest) D n E w:=by
 have h2:(k+m)*(r'.bytes+1)=(k+m)*r'.bytes+(k+m):=by rw[AdD,Acr]
 have hu:=AR ht hr;have a0:Src P r'.size t (.slice p m c) m news w:=by
  rcases hp with ⟨rfl,rfl⟩ | ⟨a,rfl,hc⟩
  ·have:news=[]:=Abt (by rw[hl,Ade]);subst this;exact Src.ofNil w hu c
  ·exact Src.ofSlice w hu a m c news hl hc h1
 obtain⟨v',w',a1,hc,ho,hv⟩:=LG ht hr he hz hown hlo a0 AdE AdE T;refine LW.val (w':=w') (v:=v') rfl rfl hn (λa ha=>?_) (h v' w' hc ho hv);unfold execOp;simp only[resolve,invoke,builtin,AaU,Abp,AaG,AbW,AbK,Acm,ha.eval hx,ha.eval hy,a1]
end
end Go.E
namespace Go.E
open Go
section
variable {P:Program} {w:World} {t:TypeId} {Q:Exit→Act→World→Prop} {D:List Deferred} {n:Nat} {E:BW} {l rest:List Oper} {x:Operand} {d T:Nat} {pos:String} {af:Array Edge}
theorem LW.neg{k:IntKind}{p z:Int}(hx:ev E x=some (.int k p))(hz:k.wrap (0 - p)=z)(hn:Nat.blt d n=true)(h:LW P l Q rest D n ((d,.int k z)::E) w) :
  LW P l Q (⟨some d,.unOp .neg t x,T,pos,af,none⟩::rest) D n E w:=by
 refine LW.val rfl rfl hn (λa ha=>?_) h;rw[show(0:Int) - p=-p by omega] at hz;simp[execOp,ha.eval hx,Op.unary,Op.intArith,hz]
theorem LW.max2{k k':IntKind}{p q:Int}{y:Operand}{ts:Array TypeId}(hx:ev E x=some (.int k p))(hy:ev E y=some (.int k' q))(hn:Nat.blt d n=true)(h:LW P l Q rest D n ((d,.int k (if p<q then q else p))::E) w) :
  LW P l Q (⟨some d,.call ⟨.builtin .max,#[x,y],ts⟩,T,pos,af,none⟩::rest) D n E w:=by
 refine LW.val rfl rfl hn (λa ha=>?_) h;unfold execOp;simp[resolve,invoke,builtin,ha.eval hx,ha.eval hy,Builtin.max_,Builtin.max2]
end
end Go.E
namespace Go.E
open Go
section
variable {P:Program} [Tab P] {w:World} {t:TypeId} {Q:Exit→Act→World→Prop} {D:List Deferred} {n:Nat} {E:BW} {l rest:List Oper} {x y:Operand} {d T:Nat} {pos:String} {af:Array Edge} {r:TRow} {e ty:TypeId}
theorem Wg(ht:Tab.row P t=some r)(hr:r.desc=.slice e)(p:Option Addr)(m c:Nat)(w:World) :
  (Op.equal t (.slice p m c) (.slice none 0 0)).run P w=.ok p.isNone w:=by
 have hu:=AR ht hr;unfold Op.equal;rw[show Op.maxDepth=9999+1 from rfl];unfold Op.equalIn;rw[AaU,run_underlying hu];cases p<;>rfl
theorem Y.eql_sn{p:Option Addr}{m c:Nat}(hx:ev E x=some (.slice p m c))(ht:Tab.row P t=some r)(hr:r.desc=.slice e)(dst:Option Tmp) :
  Y P D n E w {dst,op:=.binOp .eql t x (.const (.slice none 0 0)) ty,type:=T,pos,after:=af,guard:=none} (.bool p.isNone):=λa ha=>by
 have hg:(eqGuard .eql t x (.const (.slice none 0 0)) (.slice p m c) (.slice none 0 0)).run P w=.ok () w:=rfl;have e2:a.eval (.const (.slice none 0 0))=.slice none 0 0:=rfl;simp only[execOp,ha.eval hx,e2,AaU,hg,AaG,binOp,Wg ht hr,Abp]
theorem LW.eql_sn{p:Option Addr}{m c:Nat}(hx:ev E x=some (.slice p m c))(ht:Tab.row P t=some r)(hr:r.desc=.slice e)(hn:Nat.blt d n=true)(h:LW P l Q rest D n ((d,.bool p.isNone)::E) w) :
  LW P l Q (⟨some d,.binOp .eql t x (.const (.slice none 0 0)) ty,T,pos,af,none⟩::rest) D n E w:=LW.val rfl rfl hn (Y.eql_sn hx ht hr _) h
end
end Go.E
namespace Go.E
open Go
theorem Gs{S:List Nat}{w w':World}(h:Chg S w w'){a:Addr}{v:Value}(hn:a.block∉S)(hc:w.cell? a=some v):w'.cell? a=some v:=by
 have a0:=AbO w a hc;rw[World.cell?_of_block (w:=w) (h.block a.block a0 hn)];exact hc
theorem Oc(a:Addr):a.add 0=a:=by simp[Addr.add]
theorem BF(a:Addr)(k:Nat):(a.add k).block=a.block:=by unfold Addr.add;split<;>rfl
variable {α:Type}
abbrev ED(α:Type):=Nat→World→List Value→α→Prop
def Ab(m:Nat)(ok:Addr→Prop)(R:ED α)(w:World)(v:Value)(l:List α):Prop:=
 l.length≤1000000∧(v=.slice none 0 0∧l=[]∨∃a c,v=.slice (some a) l.length c∧(l≠[]→ok a)∧∀i x,l[i]?=some x→∃cs,cs.length=m∧R i w cs x∧∀j u,cs[j]?=some u→w.cell? ((a.add (i*m)).add j)=some u)
theorem Ab.slice{m:Nat}{ok:Addr→Prop}{R:ED α}{w:World}{v:Value}{l:List α}(h:Ab m ok R w v l):∃p c,v=.slice p l.length c:=by
 obtain⟨h0,⟨rfl,rfl⟩ | ⟨a,c,e,h⟩⟩:=h
 ·exact⟨_,_,rfl⟩
 ·exact⟨_,_,e⟩
theorem Ab.nil{m:Nat}{ok:Addr→Prop}{R:ED α}{w:World}:Ab m ok R w (.slice none 0 0) []:=⟨by simp,.inl ⟨rfl,rfl⟩⟩
theorem Ab.at{m:Nat}{ok:Addr→Prop}{R:ED α}{w:World}{p:Option Addr}{c:Nat}{l:List α}(h:Ab m ok R w (.slice p l.length c) l){i:Nat}{x:α}(hi:l[i]?=some x):∃a cs,p=some a∧ok a∧cs.length=m∧R i w cs x∧∀j u,cs[j]?=some u→w.cell? ((a.add (((i:Nat):Int).toNat*m)).add j)=some u:=by
 obtain⟨h0,⟨e,e2⟩ | ⟨a,cap,e,ho,h⟩⟩:=h
 ·rw[e2] at hi;simp at hi
 ·simp only[AbM] at e;obtain⟨cs,h1,h2,h3⟩:=h i x hi;exact⟨a,cs,e.1,ho (λh=>by rw[h] at hi;simp at hi),h1,h2,h3⟩
theorem Ab.at1{ok:Addr→Prop}{R:ED α}{w:World}{p:Option Addr}{c:Nat}{l:List α}(h:Ab 1 ok R w (.slice p l.length c) l){i:Nat}{x:α}(hi:l[i]?=some x):∃a u,p=some a∧ok a∧R i w [u] x∧w.cell? (a.add (((i:Nat):Int).toNat*1))=some u:=by
 obtain⟨a,cs,h1,h2,h3,h4,h5⟩:=h.at hi
 match cs,h3 with
 | [u],_=>exact⟨a,u,h1,h2,h4,by have:=h5 0 u rfl;rwa [Oc] at this⟩
theorem Ab.map{m:Nat}{ok ok':Addr→Prop}{R R':ED α}{w:World}{v:Value}{l:List α}(h:Ab m ok R w v l)(ho:∀a,ok a→ok' a)(hR:∀i x cs,l[i]?=some x→R i w cs x→R' i w cs x):Ab m ok' R' w v l:=by
 obtain⟨h0,h | ⟨a,c,e,hk,h⟩⟩:=h
 ·exact⟨h0,.inl h⟩
 ·exact⟨h0,.inr ⟨a,c,e,λhl=>ho a (hk hl),λi x hi=>let ⟨cs,h1,h2,h3⟩:=h i x hi;⟨cs,h1,hR i x cs hi h2,h3⟩⟩⟩
theorem Ab.chg{S:List Nat}{m:Nat}{ok:Addr→Prop}{R R':ED α}{w w':World}{v:Value}{l:List α}(h:Ab m ok R w v l)(x:Chg S w w')(hs:l≠[]→∀a,ok a→a.block∉S)(hR:∀i y cs,l[i]?=some y→R i w cs y→R' i w' cs y):Ab m ok R' w' v l:=by
 obtain⟨h0,h | ⟨a,c,e,hk,h⟩⟩:=h
 ·exact⟨h0,.inl h⟩
 ·exact⟨h0,.inr ⟨a,c,e,hk,λi y hi=>let ⟨cs,h1,h2,h3⟩:=h i y hi;⟨cs,h1,hR i y cs hi h2,λj u hj=>Gs x (by rw[BF,BF];exact hs (λh=>by rw[h] at hi;simp at hi) a (hk λh=>by rw[h] at hi;simp at hi)) (h3 j u hj)⟩⟩⟩
theorem Ab.ext'{m:Nat}{ok:Addr→Prop}{R R':ED α}{w w':World}{v:Value}{l:List α}(h:Ab m ok R w v l)(x:Ai w w')(hR:∀i y cs,l[i]?=some y→R i w cs y→R' i w' cs y):Ab m ok R' w' v l:=h.chg x AdM hR
def Aq(m:Nat)(lo:Nat)(T:TypeId)(R:ED α)(w:World)(v:Value)(l:List α):Prop:=
 ∃css:List (List Value),css.length=l.length∧(∀cs∈css,cs.length=m)∧Own w lo T m v l.length css.flatten∧∀i x cs,l[i]?=some x→css[i]?=some cs→R i w cs x
theorem Aq.nil{m lo:Nat}{T:TypeId}{R:ED α}{w:World}:Aq m lo T R w (.slice none 0 0) []:=⟨[],rfl,by simp,Own.nil _ _ _ _,by simp⟩
theorem Aq.slice{m lo:Nat}{T:TypeId}{R:ED α}{w:World}{v:Value}{l:List α}(h:Aq m lo T R w v l):∃p c,v=.slice p l.length c:=by
 obtain⟨_,_,_,h,_⟩:=h;exact h.slice
theorem Aq.lt{m lo:Nat}{T:TypeId}{R:ED α}{w:World}{v:Value}{l:List α}(h:Aq m lo T R w v l){b:Nat}(hb:b∈Ac v):lo≤b∧b<w.heap.size:=by
 obtain⟨_,_,_,h,_⟩:=h;exact h.lt hb
theorem Aq.chg{S:List Nat}{m lo:Nat}{T:TypeId}{R R':ED α}{w w':World}{v:Value}{l:List α}(h:Aq m lo T R w v l)(x:Chg S w w')(hs:∀b,b∈Ac v→b∉S)(hR:∀i y cs,l[i]?=some y→R i w cs y→R' i w' cs y):Aq m lo T R' w' v l:=by
 obtain⟨css,h1,h2,h3,h4⟩:=h;exact⟨css,h1,h2,h3.chg x hs,λi y cs hi hc=>hR i y cs hi (h4 i y cs hi hc)⟩
theorem Aq.ext'{m lo:Nat}{T:TypeId}{R R':ED α}{w w':World}{v:Value}{l:List α}(h:Aq m lo T R w v l)(x:Ai w w')(hR:∀i y cs,l[i]?=some y→R i w cs y→R' i w' cs y):Aq m lo T R' w' v l:=h.chg x AdM hR
theorem Aq.low{m lo lo':Nat}{T:TypeId}{R:ED α}{w:World}{v:Value}{l:List α}(h:Aq m lo T R w v l)(hl:lo'≤lo):Aq m lo' T R w v l:=by
 obtain⟨css,h1,h2,h3,h4⟩:=h;exact⟨css,h1,h2,h3.low hl,h4⟩
theorem L2{m:Nat}:∀{css:List (List Value)} {sp:List Value} {i:Nat} {cs:List Value} {j:Nat},(∀cs∈css,cs.length=m)→css[i]?=some cs→j<m→(css.flatten++sp)[i*m+j]?=cs[j]?
 | [],_,_,_,_,_,h,_=>by simp at h
 | y::l,sp,0,x,j,hl,h,hj=>by
  simp at h;subst h;have:=hl y (Abo ..)
  rw[List.flatten_cons,AaR,Ade,AbC,Abk AdE]
 | y::l,sp,i+1,x,j,hl,h,hj=>by
  have ih:=L2 (css:=l) (sp:=sp) (i:=i) (cs:=x) (j:=j) (λcs hc=>hl cs (Abj _ hc)) Aeu hj;have hy:=hl y (Abo ..);rw[List.flatten_cons,AaR,Abx (by rw[hy,Acg];omega),←ih,hy]
  congr 1
  rw[Acg];omega
theorem Aq.list{m lo:Nat}{T:TypeId}{R:ED α}{w:World}{v:Value}{l:List α}{ok:Addr→Prop}(h:Aq m lo T R w v l)(hl:l.length≤1000000)(ho:∀g,g∈Ac v→l≠[]→ok ⟨g,0,none⟩):Ab m ok R w v l:=by
 obtain⟨css,h1,h2,⟨h3,⟨rfl,h4⟩ | ⟨g,cap,sp,rfl,hB,_,_,_⟩⟩,h5⟩:=h
 ·exact⟨hl,.inl ⟨rfl,Abt h4⟩⟩
 ·refine⟨hl,.inr ⟨⟨g,0,none⟩,cap,rfl,λhn=>ho g Aet hn,λi x hi=>?_⟩⟩;have a1:=(Abg.1 hi).1;obtain⟨cs,a0⟩:∃cs,css[i]?=some cs:=⟨_,Aap AdE⟩;have hm:=h2 cs (Abn a0);refine⟨cs,hm,h5 i x cs hi a0,λj u hj=>?_⟩;have a2:=(Abg.1 hj).1;rw[Au,Au];refine hB.cell ?_;rw[AbC,L2 h2 a0 AdE];exact hj
theorem Aq.snoc{m lo:Nat}{T:TypeId}{R:ED α}{w':World}{v':Value}{l:List α}{x:α}{cs:List Value}{css:List (List Value)}(h1:css.length=l.length)(h2:∀cs∈css,cs.length=m)(hO:Own w' lo T m v' (l.length+1) (css.flatten++cs))(h3:cs.length=m)(hR:∀i y ds,l[i]?=some y→css[i]?=some ds→R i w' ds y)(hx:R l.length w' cs x):Aq m lo T R w' v' (l++[x]):=by
 refine⟨css++[cs],by simp[h1],λds hd=>?_,by simpa using hO,λi y ds hi hd=>?_⟩
 ·rcases Abf.1 hd with hd | hd
  ·exact h2 ds hd
  ·simp only[Aad] at hd;rw[hd];exact h3
 ·rcases Ac7 i l.length with hlt | rfl | hlt
  ·rw[Abk hlt] at hi;rw[Abk AdE] at hd;exact hR i y ds hi hd
  ·simp at hi;rw[Abx AdE,h1] at hd;simp at hd;rw[←hi,←hd];exact hx
  ·rw[Abs AdG] at hi;cases hi
theorem Ab.lt{m:Nat}{ok:Addr→Prop}{R:ED α}{w:World}{v:Value}{l:List α}(h:Ab m ok R w v l)(hm:0<m)(hn:l≠[]):∃a c,v=.slice (some a) l.length c∧a.block<w.heap.size:=by
 obtain⟨h0,⟨_,e⟩ | ⟨a,c,e,hk,h⟩⟩:=h
 ·exact absurd e hn
 ·obtain⟨x,r,rfl⟩:=List.exists_cons_of_ne_nil hn;obtain⟨cs,h1,_,h3⟩:=h 0 x rfl;obtain⟨u,us,rfl⟩:=List.exists_cons_of_length_pos (by omega:0<cs.length);have:=AbO w _ (h3 0 u rfl);rw[BF,BF] at this;exact⟨a,c,e,this⟩
end Go.E
namespace Go.E
open Go
section
variable {P:Program} [Tab P] {w:World} {t e:TypeId} {r r':TRow} {Q:Exit→Act→World→Prop} {D:List Deferred} {n:Nat} {E:BW} {l rest:List Oper} {x y:Operand} {d T:Nat} {pos:String} {af:Array Edge}
theorem NQ{z:Value}(m:Nat):madeCells #[z] m=⟨List.replicate m z⟩:=by
 apply Acv;unfold madeCells;apply AbT;intro i;simp only[Ad5,Array.toList_range,Ab1,AcZ];by_cases h:i<m
 ·simp[h,Nat.mod_one]
 ·simp[h]
theorem LW.makeSlice{k k':IntKind}{m:Nat}{z:Value}(hx:ev E x=some (.int k (m:Int)))(hy:ev E y=some (.int k' (m:Int)))(ht:Tab.row P t=some r)(hr:r.desc=.slice e)(he:Tab.row P e=some r')(hz:r'.zero.cells=#[z])(hs:Nat.beq r'.size 1=true)(hm:m≤16777216)(hbb:Nat.ble r'.bytes 1000000=true)(hn:Nat.blt d n=true)
  (h:∀b w',b=w.heap.size→Ai w w'→Blk w' b (List.replicate m z) e→LW P l Q rest D n ((d,.slice (some ⟨b,0,none⟩) m m)::E) w') :
  LW P l Q (⟨some d,.makeSlice t x y,T,pos,af,none⟩::rest) D n E w:=by
 have a1:r'.size=1:=Ab4 hs;obtain⟨d0,hd,hb,i,hi,a3,a2,a4⟩:=Tab.ok e r' he;have a6:m*r'.bytes≤16777216*1000000:=AcJ hm (Abq hbb);have a5:(r'.bytes:Int)*(m:Int)=((m*r'.bytes:Nat):Int):=by rw[Int.natCast_mul,Int.mul_comm]
 have a0:=run_makeSlice (P:=P) (w:=w) t e i r'.zero (AR ht hr) hi a3 k k' (m:Int) (m:Int) AdE (AcK _) (by rw[a2,a1];omega) (by rw[a4,a5];omega) AdE;rw[a2,a1,AcH,Acr,hz,NQ] at a0;refine LW.val (w':=w.alloc (.cells ⟨List.replicate m z⟩ e)) rfl rfl hn (λa ha=>?_) (h _ _ rfl (Ai.alloc ..) (Blk.alloc ..));have e1:(execOp a.eval ⟨some d,.makeSlice t x y,T,pos,af,none⟩)=(do Pure.pure (Next.value (←Instr.makeSlice t (a.eval x) (a.eval y)))):=rfl;rw[e1,ha.eval hx,ha.eval hy,AaU,a0];rfl
end
section
variable {P:Program} [Tab P] {w:World} {t:TypeId} {r:TRow} {Q:Exit→Act→World→Prop} {D:List Deferred} {n:Nat} {E:BW} {l rest:List Oper} {x:Operand} {d T:Nat} {pos:String} {af:Array Edge} {a0:Addr} {v:Value} {cs:List Value}
theorem Lu(h:LW P l Q rest D n ((d,v)::E) w)(hx:ev E x=some (.pointer (some a0)):=by exact rfl)(ht:Tab.row P t=some r:=by exact rfl)(hr:Be r.desc=false:=by exact rfl)(hc:w.cell? a0=some v:=by assumption)(hn:Nat.blt d n=true:=by exact rfl):LW P l Q (⟨some d,.load t x,T,pos,af,none⟩::rest) D n E w:=LW.load_cell hx hc ht hr hn h
theorem Lv(h:LW P l Q rest D n ((d,.agg ⟨cs⟩)::E) w)(hx:ev E x=some (.pointer (some a0)):=by exact rfl)(ht:Tab.row P t=some r:=by exact rfl)(hr:Be r.desc=true:=by exact rfl)(hc:∀j u,cs[j]?=some u→w.cell? (a0.add j)=some u:=by assumption)(hs:r.size=cs.length:=by exact rfl)(hn:Nat.blt d n=true:=by exact rfl):LW P l Q (⟨some d,.load t x,T,pos,af,none⟩::rest) D n E w:=LW.load_cells hx hc ht hr hs hn h
end
section
variable {P:Program} [Tab P] {w:World} {t:TypeId} {r:TRow} {Q:Exit→Act→World→Prop} {D:List Deferred} {n:Nat} {E:BW} {l rest:List Oper} {x:Operand} {d T:Nat} {pos:String} {af:Array Edge} {a0:Addr} {v:Value} {cs:List Value}
theorem Qu(h:QL P l Q rest D n ((d,v)::E) w)(hx:ev E x=some (.pointer (some a0)):=by exact rfl)(ht:Tab.row P t=some r:=by exact rfl)(hr:Be r.desc=false:=by exact rfl)(hc:w.cell? a0=some v:=by assumption)(hn:Nat.blt d n=true:=by exact rfl):QL P l Q (⟨some d,.load t x,T,pos,af,none⟩::rest) D n E w:=QL.yields rfl rfl hn (λ_ hw=>Y.load_cell hx (BH hw hc) ht hr) h
theorem Qv(h:QL P l Q rest D n ((d,.agg ⟨cs⟩)::E) w)(hx:ev E x=some (.pointer (some a0)):=by exact rfl)(ht:Tab.row P t=some r:=by exact rfl)(hr:Be r.desc=true:=by exact rfl)(hc:∀j u,cs[j]?=some u→w.cell? (a0.add j)=some u:=by assumption)(hs:r.size=cs.length:=by exact rfl)(hn:Nat.blt d n=true:=by exact rfl):QL P l Q (⟨some d,.load t x,T,pos,af,none⟩::rest) D n E w:=QL.yields rfl rfl hn (λ_ hw=>Y.load_cells hx (λj u hj=>BH hw (hc j u hj)) ht hr hs) h
end
theorem Sk{G G':Prop}(h:G')(hi:Hd G'→G:=by intro h;(repeat (first | refine Qa ?_ | refine Qb ?_ | refine Qc ?_ | refine Qd ?_ | refine Qe ?_ | refine Qf ?_ | refine Qg ?_ | refine Qo ?_ | refine Qn ?_ | refine Qu ?_ | refine Qv ?_));exact h.h):G:=hi ⟨h⟩
theorem Sw{G G':Prop}(h:G')(hi:Hd G'→G:=by intro h;(repeat (first | refine La ?_ | refine Lb ?_ | refine Lc ?_ | refine Ld ?_ | refine Le ?_ | refine Lf ?_ | refine Lg ?_ | apply LW.nil | apply QW.then_n | apply QW.round | apply RW.succ | apply CW.seq | apply CW.region | apply CW.skip | apply CW.block | apply CW.ret | apply CW.exit | apply QW.then_ret | apply QW.then_exit | apply QW.blk_n | apply QW.blk_ret | apply QW.blk_exit | refine Ca ?_ | refine Cb ?_ | refine Cc ?_ | refine Lh ?_ | refine Lo ?_ | refine Ln ?_ | refine Lu ?_ | refine Lv ?_));exact h.h):G:=hi ⟨h⟩
end Go.E
namespace Go.E
open Go
section
variable {P:Program} {ops:Array Oper} {Q:Exit→Act→World→Prop} {md:Region.Mode} {S:World→Prop}
def Iq(P:Program)(md:Region.Mode)(ops:Array Oper)(Q:Exit→Act→World→Prop)(S:World→Prop)(n:Nat):Nat→Array Bool→Act→World→Prop
 | 0,listed,a,w=>Region.ready md ops listed=[]∧Q .normal a w
 | f+1,listed,a,w=>(Region.ready md ops listed=[]→Q .normal a w)∧
  ∀i∈Region.ready md ops listed,wpOp P ops Q i (λa' w'=>(i<n→S w')∧Iq P md ops Q S n f (listed.setIfInBounds i true) a' w') a w
theorem Ir{n:Nat}:∀(f:Nat) (listed:Array Bool) (a:Act) (w:World),Iq P md ops Q S n f listed a w→wpAny P md ops Q f listed a w
 | 0,_,_,_,h=>h
 | f+1,_,_,_,h=>⟨h.1,λi hi=>wpOp_mono (λa' w' k=>Ir f _ a' w' k.2) (h.2 i hi)⟩
theorem Fo{n i:Nat}{oi:Oper}{v:Value}(hi:ops[i]?=some oi)(hsel:∀(j:Nat) (o:Oper) cs b,ops[j]?=some o→o.op≠.select cs b)
  (hsk:Region.sinkB md ops n=true) (hch:Region.chainB md ops n=true) (hn:n<ops.size) (hin:i<n) (hQ:∀c a w,Q (.panic c) (a.put oi.dst v) w→Q (.panic c) a w) :
  ∀(f:Nat) (listed:Array Bool) (a:Act) (w:World),HeadInv md ops n listed→
   (∀j oj,ops[j]?=some oj→j≠i→listed.getD j true=false→(∀e∈oj.after,Region.binds md e=true→e.on≠i)→oi.apart ops oj=true)→
   i∈Region.ready md ops listed→YieldsIf P ops S oi v a→S w→
   Iq P md ops Q S n f (listed.setIfInBounds i true) (a.put oi.dst v) w→Iq P md ops Q S n (f+1) listed a w:=by
 intro f
 induction f with
 | zero=>
  intro listed a w _ _ hr hy hS H;refine⟨λh=>(by rw[h] at hr;cases hr),λj hj=>?_⟩;by_cases a1:j=i
  ·subst a1;exact hy.wpOp hi hS ⟨λ_=>hS,H⟩
  ·have:=ready_mono hj a1;rw[H.1] at this
   cases this
 | succ f ih=>
  intro listed a w inv a0 hr hy hS H;have a8:=(mem_ready.1 hr).1;refine⟨λh=>(by rw[h] at hr;cases hr),λj hj=>?_⟩;by_cases a1:j=i
  ·subst a1;exact hy.wpOp hi hS ⟨λ_=>hS,H⟩
  have a4:j<n:=Nat.lt_of_not_le λh=>tail_waits hsk hch hn inv _ i rfl hin a8 j h hj;obtain⟨a3,oj,a5,a6⟩:=mem_ready.1 hj;have a7:∀e∈oj.after,Region.binds md e=true→e.on≠i:=λe he hb ad=>by
   have h1:=a6 e he hb;rw[ad,getD_both a8] at h1;cases h1
  have h2:=wpOp_putIf a5 (a0 j oj a5 a1 a3 a7) (λcs b=>hsel i oi cs b hi) (λcs b=>hsel j oj cs b a5) hQ hy (H.2 j (ready_mono hj a1));have a2:∀k ok,ops[k]?=some ok→k≠i→(listed.setIfInBounds j true).getD k true=false→(∀e∈ok.after,Region.binds md e=true→e.on≠i)→oi.apart ops ok=true:=λk ok hk a9 aa ab=>by
   by_cases ac:j=k
   ·subst ac;exact a0 j ok hk a9 a3 ab
   ·rw[getD_set_ne true ac] at aa;exact a0 k ok hk a9 aa ab
  refine wpOp_mono (λa' w' h3=>⟨λ_=>h3.2.1 a4,ih _ a' w' (inv.set hj a4) a2 (ready_mono hr (Ne.symm a1)) h3.1 (h3.2.1 a4) ?_⟩) h2;rw[Array.setIfInBounds_comm _ _ a1];exact h3.2.2
end
def GW(P:Program)(S:World→Prop)(l:List Oper)(n:Nat)(Q:Exit→Act→World→Prop)(f:Nat)(ls:List Bool)(D:List Deferred)(m:Nat)(E:BW)(w:World):Prop:=
 ∀a,Holds a D m E→S w→HeadInv .any l.toArray n ⟨ls⟩→Iq P .any l.toArray Q S n f ⟨ls⟩ a w
section
variable {P:Program} {S:World→Prop} {Q:Exit→Act→World→Prop} {D:List Deferred} {n m f d j t:Nat} {E:BW} {w:World} {l:List Oper} {ls ls':List Bool} {o:Oper} {v:Value} {op:Op} {T:TypeId} {pos:String} {af:Array Edge}
def D9(l:List Oper)(n:Nat):Bool:=Region.noSelect l.toArray&&decide (n<l.length)&&Region.sinkB .any l.toArray n&&Region.chainB .any l.toArray n
theorem CW.drawG{t:Nat}(S:World→Prop)(n:Nat)(hS:∀w',Ai w w'→S w')(hm:P.follows .mixedOrders=true)(h:∀w',Ai w w'→GW P S l n Q l.length (List.replicate l.length false) D m E w'):CW P (.region t l.toArray true) Q D m E w:=by
 unfold CW;refine λa ha=>wp_region_any hm (Ir (S:=S) (n:=n) _ _ _ _ ?_);have inv0:HeadInv .any l.toArray n (Array.replicate l.toArray.size false):=
  ⟨by simp,λj oj _ hl=>(by rw[getD_replicate_false] at hl;cases hl),λt _ ht=>getD_in (by simpa using ht) (getD_replicate_false _ _)⟩
 have e:(⟨List.replicate l.length false⟩:Array Bool)=Array.replicate l.toArray.size false:=AdM
 have:=h _ (Ai.drew w) a ha (hS _ (Ai.drew w)) (by rw[e];exact inv0);rw[e] at this
 simpa using this
theorem GW.know{t:Nat}{b c:Bool}(ht:look E t=some (.bool b))(hb:b=c)(h:GW P S l n Q f ls D m ((t,.bool c)::E) w):GW P S l n Q f ls D m E w:=λa ha=>h a (ha.sub (Al.know ht hb))
theorem GW.take(i:Nat){d:Nat}(hi:l[i]?=some o)(hg:o.guard=none)(hd:o.dst=some d)(hm:Nat.blt d m=true)(hy:∀w,S w→Y P D m E w o v)(hl:ls.set i true=ls')(hin:Nat.blt i n=true)(hk:D9 l n=true)
  (hf:Region.free .any l.toArray ⟨ls⟩ i=true) (hr:(Region.ready .any l.toArray ⟨ls⟩).contains i=true) (ht:∀c a w,Q (.panic c) (a.put o.dst v) w→Q (.panic c) a w)
  (h:GW P S l n Q f ls' D m ((d,v)::E) w):GW P S l n Q (f+1) ls D m E w:=λa ha hS inv=>by
 subst hl;simp only[D9,AaY,decide_eq_true_eq] at hk;have hin':i<n:=Abq hin;have hr':i∈Region.ready .any l.toArray ⟨ls⟩:=by simpa using hr
 have a0:l.toArray[i]?=some o:=by simpa using hi
 refine Fo a0 (Region.noSelect_spec hk.1.1.1) hk.1.2 hk.2 Ae1 hin' ht f _ a w inv (Region.free_spec a0 hf) hr' (.inl ⟨by simp[Region.wanted,hg],λw hw=>hy w hw a ha⟩) hS ?_;have inv':=inv.set hr' hin';rw[Ei] at inv' ⊢;rw[hd];exact h _ (ha.put d v hm) hS inv'
theorem GW.takeW(i:Nat){b:Bool}(hi:l[i]?=some ⟨some d,op,T,pos,af,some (j,b)⟩)(hm:Nat.blt d m=true)(hj:BM l j=some t)(hb:look E t=some (.bool b))(hy:∀w,S w→Y P D m E w ⟨some d,op,T,pos,af,none⟩ v)(hl:ls.set i true=ls')(hin:Nat.blt i n=true)(hk:D9 l n=true)
  (hf:Region.free .any l.toArray ⟨ls⟩ i=true) (hr:(Region.ready .any l.toArray ⟨ls⟩).contains i=true) (ht:∀c a w,Q (.panic c) (a.put (some d) v) w→Q (.panic c) a w)
  (h:GW P S l n Q f ls' D m ((d,v)::E) w):GW P S l n Q (f+1) ls D m E w:=λa ha hS inv=>by
 subst hl;simp only[D9,AaY,decide_eq_true_eq] at hk;have hin':i<n:=Abq hin;have hr':i∈Region.ready .any l.toArray ⟨ls⟩:=by simpa using hr
 have a1:=Ds (l:=l) ha hj hb;have a0:l.toArray[i]?=some ⟨some d,op,T,pos,af,some (j,b)⟩:=by simpa using hi
 refine Fo (v:=v) a0 (Region.noSelect_spec hk.1.1.1) hk.1.2 hk.2 Ae1 hin' ht f _ a w inv (Region.free_spec a0 hf) hr' (.inl ⟨by simp[Region.wanted,a1],λw hw=>hy w hw a ha⟩) hS ?_;have inv':=inv.set hr' hin';rw[Ei] at inv' ⊢;exact h _ (ha.put d v hm) hS inv'
theorem GW.skip(i:Nat){b c:Bool}(hi:l[i]?=some o)(hg:o.guard=some (j,b))(hd:o.dst=some d)(hm:Nat.blt d m=true)(hj:BM l j=some t)(hb:look E t=some (.bool c))(hne:(c == b)=false)(hl:ls.set i true=ls')(hin:Nat.blt i n=true)(hk:D9 l n=true)
  (hf:Region.free .any l.toArray ⟨ls⟩ i=true) (hr:(Region.ready .any l.toArray ⟨ls⟩).contains i=true) (ht:∀c a w,Q (.panic c) (a.put o.dst undef) w→Q (.panic c) a w)
  (h:GW P S l n Q f ls' D m ((d,undef)::E) w):GW P S l n Q (f+1) ls D m E w:=λa ha hS inv=>by
 subst hl;simp only[D9,AaY,decide_eq_true_eq] at hk;have hin':i<n:=Abq hin;have hr':i∈Region.ready .any l.toArray ⟨ls⟩:=by simpa using hr
 have a1:=Ds (l:=l) ha hj hb;have hw:Region.wanted o (yielded l.toArray a.tmps)=false:=by
  simp only[Region.wanted,hg,a1];cases c<;>cases b<;>first | rfl | cases hne
 have a0:l.toArray[i]?=some o:=by simpa using hi
 refine Fo (v:=undef) a0 (Region.noSelect_spec hk.1.1.1) hk.1.2 hk.2 Ae1 hin' ht f _ a w inv (Region.free_spec a0 hf) hr' (.inr ⟨hw,rfl⟩) hS ?_;have inv':=inv.set hr' hin';rw[Ei] at inv' ⊢;rw[hd];exact h _ (ha.put d _ hm) hS inv'
def Gp(P:Program)(S:World→Prop)(l:List Oper)(n:Nat)(Q:Exit→Act→World→Prop)(f:Nat)(ls:List Bool):Act→World→Prop:=λa w=>S w∧(HeadInv .any l.toArray n ⟨ls⟩→Iq P .any l.toArray Q S n f ⟨ls⟩ a w)
theorem NY{i:Nat}(hi:l[i]?=some o)(inv:HeadInv .any l.toArray n ⟨ls⟩)(hr:i∈Region.ready .any l.toArray ⟨ls⟩)(hin:i<n){a:Act}(ha:Holds a D m E)(h:LW P l (Exit.then (Gp P S l n Q f (ls.set i true)) Q) [o] D m E w) :
  wpOp P l.toArray Q i (λa' w'=>(i<n→S w')∧Iq P .any l.toArray Q S n f ((⟨ls⟩:Array Bool).setIfInBounds i true) a' w') a w:=by
 have inv':=inv.set hr hin;unfold LW at h;have h1:=h a ha;rw[Ei] at inv' ⊢;have a0:l.toArray[i]?=some o:=by simpa using hi
 have h2:wpOp P l.toArray Q i (Gp P S l n Q f (ls.set i true)) a w:=by
  unfold wpOp;simp only[a0];unfold wpList at h1
  split
  ·rename_i hw;rw[if_pos hw] at h1;exact h1.imp Mi (λhh=>hh)
  ·rename_i hw;rw[if_neg hw] at h1;unfold wpList at h1;exact h1
 exact wpOp_mono (λa' w' k=>⟨λ_=>k.1,k.2 inv'⟩) h2
theorem GW.one(i:Nat)(hr:Region.ready .any l.toArray ⟨ls⟩=[i])(hi:l[i]?=some o)(hl:ls.set i true=ls')(hin:Nat.blt i n=true)(h:S w→LW P l (Exit.then (Gp P S l n Q f ls') Q) [o] D m E w):GW P S l n Q (f+1) ls D m E w:=λa ha hS inv=>by
 subst hl;refine⟨λh0=>(by rw[hr] at h0;cases h0),λk hk=>?_⟩;have hk':=hk;rw[hr] at hk;obtain rfl:k=i:=by simpa using hk
 exact NY hi inv hk' (Abq hin) ha (h hS)
theorem GW.two(i j:Nat){o':Oper}{ls'':List Bool}(hr:Region.ready .any l.toArray ⟨ls⟩=[i,j])(hi:l[i]?=some o)(hj:l[j]?=some o')(hl:ls.set i true=ls')(hl':ls.set j true=ls'')(hin:Nat.blt i n=true)(hjn:Nat.blt j n=true)
  (h:S w→LW P l (Exit.then (Gp P S l n Q f ls') Q) [o] D m E w) (h':S w→LW P l (Exit.then (Gp P S l n Q f ls'') Q) [o'] D m E w):GW P S l n Q (f+1) ls D m E w:=λa ha hS inv=>by
 subst hl;subst hl';refine⟨λh0=>(by rw[hr] at h0;cases h0),λk hk=>?_⟩;have hk':=hk;rw[hr] at hk;simp only[AaT,Abu,or_false] at hk;rcases hk with rfl | rfl
 ·exact NY hi inv hk' (Abq hin) ha (h hS)
 ·exact NY hj inv hk' (Abq hjn) ha (h' hS)
theorem QW.headed{Q':Exit→Act→World→Prop}(hS:S w)(h:GW P S l n Q f ls D m E w):QW (Exit.then (Gp P S l n Q f ls) Q') .normal D m E w:=by
 unfold QW;exact λa ha=>⟨hS,λinv=>h a ha hS inv⟩
theorem JM:∀(f:Nat) (listed:Array Bool) (a:Act) (w:World),(∀i,i<n→listed.getD i true=true)→wpAny P .any l.toArray Q f listed a w→Iq P .any l.toArray Q S n f listed a w
 | 0,_,_,_,_,h=>h
 | f+1,listed,a,w,hd,h=>⟨h.1,λi hi=>by
  have hin:n≤i:=Nat.le_of_not_lt λhlt=>by
   have:=(mem_ready.1 hi).1;rw[hd i hlt] at this;cases this
  refine wpOp_mono (λa' w' k=>⟨λhlt=>by omega,JM f _ a' w' (λj hj=>?_) k⟩) (h.2 i hi);rw[getD_set_ne true AdE];exact hd j hj⟩
theorem GW.tail(hf:f=(l.drop n).length)(hb:(Region.seqB .any l.toArray f n ⟨ls⟩&&(ls.take n).all (λb=>b))=true)(h:S w→LW P l Q (l.drop n) D m E w):GW P S l n Q f ls D m E w:=λa ha hS _=>by
 subst hf;have h1:=h hS;unfold LW at h1;simp only[AaY] at hb;refine JM _ _ a w (λi hi=>?_) (wpAny_of_seq (l.drop n) n _ a w (λj=>by simp) hb.1 (h1 a ha));have h2:=Ac1.1 hb.2;by_cases hi':i<ls.length
 ·have h3:ls[i]∈ls.take n:=AcL.2 ⟨i,by simp;omega,by simp⟩;have h4:ls[i]=true:=h2 _ h3;simp[hi',h4]
 ·simp[hi']
end
def ZF:Op→Bool
 | .move _ | .assign _ | .pick .. | .binOp .. | .unOp .. | .extract .. | .fieldAddr .. | .indexAddr .. | .load .. | .convert .. | .build ..=>true
 | .call ⟨.builtin .len,_,_⟩=>true
 | _=>false
def Z5:Ground→Bool
 | .gcOnly _ | .textOnly _=>false
 | _=>true
def MU(all:List Bool):List Oper→List Bool→Nat
 | o::r,b::bs=>bif b then MU all r bs+1 else bif ZF o.op&&o.after.toList.all (λe=>bif Z5 e.ground then all.getD e.on false else true) then 0 else MU all r bs+1
 | _,_=>0
section
variable {P:Program} {S:World→Prop} {Q:Exit→Act→World→Prop} {D:List Deferred} {n m f d:Nat} {E:BW} {w:World} {l:List Oper} {ls ls':List Bool} {v:Value} {op:Op} {T:TypeId} {pos:String} {af:Array Edge}
theorem Gt(h:GW P S l n Q f ls' D m ((d,v)::E) w)(hi:l[MU ls l ls]?=some ⟨some d,op,T,pos,af,none⟩:=by exact rfl)(hm:Nat.blt d m=true:=by exact rfl)
  (hy:∀w,S w→Y P D m E w ⟨some d,op,T,pos,af,none⟩ v:=by first | exact λ_ _=>Y.pure AdL | exact λ_ _=>Y.field_addr AdL AdL | exact λ_ _=>Y.idx_addr AdL AdL AdL AdL AdL AdE AdE | exact λ_ hw=>Y.load AdL (Blk.ext AdR hw) AdL AdL AdL | exact λ_ hw=>Y.load AdL (Blk.chg AdR hw AdR) AdL AdL AdL | exact λ_ hw=>Y.load_all AdL (Blk.ext AdR hw) AdL AdL AdL | exact λ_ hw=>Y.load_all AdL (Blk.chg AdR hw AdR) AdL AdL AdL | exact λ_ hw=>Y.load_cell AdL (BH hw AdR) AdL AdL | exact λ_ hw=>Y.load_cell AdL (Gs hw AdR AdR) AdL AdL | exact λ_ hw=>Y.load_cells AdL (λj u hj=>BH hw Ae5) AdL AdL AdL | exact λ_ _=>Y.go AdL AdO)
  (hl:ls.set (MU ls l ls) true=ls':=by exact rfl) (a0:Nat.blt (MU ls l ls) n=true:=by kernel_rfl) (hk:D9 l n=true:=by kernel_rfl) (hf:Region.free .any l.toArray ⟨ls⟩ (MU ls l ls)=true:=by kernel_rfl) (hr:(Region.ready .any l.toArray ⟨ls⟩).contains (MU ls l ls)=true:=by kernel_rfl) (ht:∀c a w,Q (.panic c) (a.put (some d) v) w→Q (.panic c) a w:=by exact λ_ _ _ h=>h):GW P S l n Q (f+1) ls D m E w:=GW.take _ hi rfl rfl hm hy hl a0 hk hf hr ht h
end
attribute [irreducible] GW
theorem Sg{G G':Prop}(h:G')(hi:Hd G'→G:=by intro h;(repeat (refine Gt ?_));exact h.h):G:=hi ⟨h⟩
end Go.E
namespace Go.E
open Go
variable {P:Program}
section
variable {Q:Exit→Act→World→Prop} {D:List Deferred} {n:Nat} {E:BW} {w:World} {l rest:List Oper} [Tab P] {x y:Operand} {t T e:TypeId} {r r':TRow} {d:Nat} {pos:String} {af:Array Edge} {v:Value}
theorem Y.slice_hi{hi:Operand}{k:IntKind}{p:Option Addr}{m c j:Nat}(hx:ev E x=some (.slice p m c))(hl:ev E hi=some (.int k (j:Int)))(ht:Tab.row P t=some r)(hr:r.desc=.slice e)(he:Tab.row P e=some r')(hj:j≤c) :
  Y P D n E w ⟨some d,.slice t x none (some hi) none,T,pos,af,none⟩ (.slice p j c):=λa ha=>by
 have hu:=AR ht hr;have hu':P.underlying t=some (.slice (P.elem t)):=by rw[Iz hu];exact hu
 have e0:p.map (·.add 0)=p:=by cases p<;>simp[Addr.add]
 have e1:(Instr.sliceAt t (.slice p m c) none (some (.int k (j:Int))) none).run P w=.ok (.slice p j c) w:=by
  rw[run_sliceAt_slice w t _ _ _ _ hu',run_slice_any w t p m c hu'];have hb:(Instr.sliceBounds true m c none (some (.int k (j:Int))) none).run P w=.ok (0,j,c) w:=by
   simp[Instr.sliceBounds,Instr.sliceBound,asIntOf,hj]
  rw[hb,Iz hu];simp only[AaG,Co he,sliced,Ade,e0,ite_self,Ad6]
 simp only[execOp,ha.eval hx,ha.eval hl,Ab3,Adn,AaU,e1,AaG,Abp]
end
end Go.E
namespace Go.E
open Go
section
variable {P:Program} [Tab P] {w:World} {t e T T':TypeId} {r r':TRow} {Q:Exit→Act→World→Prop} {D:List Deferred} {n b i d len:Nat} {E:BW} {l rest:List Oper} {L cs:List Value} {x y:Operand} {v:Value} {pos:String} {af:Array Edge}
theorem AD(h:∀w',Chg [b] w w'→Blk w' b cs T'→LW P l Q rest D n E w')(hx:ev E x=some (.pointer (some ⟨b,0,none⟩)):=by exact rfl)(hy:ev E y=some (.agg ⟨cs⟩):=by exact rfl)(h1:cs.all (·.oneCell')=true:=by exact rfl)(hB:Blk w b L T':=by assumption)(hi:Nat.beq cs.length L.length=true:=by exact rfl)(ht:Tab.row P t=some r:=by exact rfl)(hs:Nat.beq r.size cs.length=true:=by exact rfl):LW P l Q (⟨none,.store t x y,T,pos,af,none⟩::rest) D n E w:=LW.store_all hx hy h1 hB hi ht hs h
theorem CR(h:∀w',Chg [b] w w'→Blk w' b (L.set i v) T'→LW P l Q rest D n E w')(hx:ev E x=some (.pointer (some ⟨b,i,none⟩)):=by exact rfl)(hy:ev E y=some v:=by exact rfl)(h1:v.oneCell'=true:=by exact rfl)(hB:Blk w b L T':=by assumption)(hi:Nat.blt i L.length=true:=by exact rfl)(ht:Tab.row P t=some r:=by exact rfl)(hs:Nat.beq r.size 1=true:=by exact rfl):LW P l Q (⟨none,.store t x y,T,pos,af,none⟩::rest) D n E w:=LW.store hx hy h1 hB hi ht hs h
theorem Dt{parts:List (Nat×Operand)}{vs:List (Nat×Value)}(h:∀b w',b=w.heap.size→Ai w w'→Blk w' b cs e→LW P l Q rest D n ((d,.slice (some ⟨b,0,none⟩) len len)::E) w')(hp:evp E parts=some vs:=by exact rfl)(ht:Tab.row P t=some r:=by exact rfl)(hr:r.desc=.slice e:=by exact rfl)(he:Tab.row P e=some r':=by exact rfl)(hl:Nat.ble (len*r'.size) 16777216=true:=by exact rfl)(a0:Nat.blt 0 (len*r'.size)=true:=by exact rfl)(hz:Nat.beq r'.zero.cells.toList.length r'.size=true:=by exact rfl)(hc:L1 (λi=>some (i*r'.size,r'.size)) (LR r'.zero.cells.toList len) vs=some cs:=by exact rfl)(hn:Nat.blt d n=true:=by exact rfl):LW P l Q (⟨some d,.buildSlice t len ⟨parts⟩,T,pos,af,none⟩::rest) D n E w:=LW.buildSlice hp ht hr he hl a0 hz hc hn h
theorem Bo(h:∀b w',b=w.heap.size→Ai w w'→Blk w' b cs t→LW P l Q rest D n ((d,.pointer (some ⟨b,0,none⟩))::E) w')(ht:Tab.row P t=some r:=by exact rfl)(hz:r.zero.cells.toList=cs:=by exact rfl)(hn:Nat.blt d n=true:=by exact rfl):LW P l Q (⟨some d,.alloc t,T,pos,af,none⟩::rest) D n E w:=LW.alloc ht hz hn h
omit [Tab P] in
theorem CM(h:∀b w',b=w.heap.size→Ai w w'→Blk w' b cs t→LW P l Q rest D n ((d,.pointer (some ⟨b,0,none⟩))::E) w')(hx:ev E x=some v:=by exact rfl)(hz:v.cells.toList=cs:=by exact rfl)(hn:Nat.blt d n=true:=by exact rfl):LW P l Q (⟨some d,.box t x,T,pos,af,none⟩::rest) D n E w:=LW.box hx hz hn h
omit [Tab P] in
theorem A8{c:Operand}{a:Bool}{u z:Code}(ht:a=true→CW P u Q D n E w)(hf:a=false→CW P z Q D n E w)(hc:ev E c=some (.bool a):=by exact rfl):CW P (.cond c u z) Q D n E w:=CW.cond hc ht hf
end
section
variable {P:Program} {Q:Exit→Act→World→Prop} {D:List Deferred} {n:Nat} {E:BW} {w:World} {l rest:List Oper}
theorem Abw{E:BW}{t0:Nat}{v0:Value}(h0:look E t0=some v0:=by exact rfl):Al [(t0,v0)] E:=Al.cons h0 (Al.nil)
theorem LN{E:BW}{t0:Nat}{v0:Value}{t1:Nat}{v1:Value}(h0:look E t0=some v0:=by exact rfl)(h1:look E t1=some v1:=by exact rfl):Al [(t0,v0),(t1,v1)] E:=Al.cons h0 (Al.cons h1 (Al.nil))
theorem CF{E:BW}{t0:Nat}{v0:Value}{t1:Nat}{v1:Value}{t2:Nat}{v2:Value}(h0:look E t0=some v0:=by exact rfl)(h1:look E t1=some v1:=by exact rfl)(h2:look E t2=some v2:=by exact rfl):Al [(t0,v0),(t1,v1),(t2,v2)] E:=Al.cons h0 (Al.cons h1 (Al.cons h2 (Al.nil)))
theorem Bx{E:BW}{t0:Nat}{v0:Value}{t1:Nat}{v1:Value}{t2:Nat}{v2:Value}{t3:Nat}{v3:Value}(h0:look E t0=some v0:=by exact rfl)(h1:look E t1=some v1:=by exact rfl)(h2:look E t2=some v2:=by exact rfl)(h3:look E t3=some v3:=by exact rfl):Al [(t0,v0),(t1,v1),(t2,v2),(t3,v3)] E:=Al.cons h0 (Al.cons h1 (Al.cons h2 (Al.cons h3 (Al.nil))))
theorem Et{E:BW}{t0:Nat}{v0:Value}{t1:Nat}{v1:Value}{t2:Nat}{v2:Value}{t3:Nat}{v3:Value}{t4:Nat}{v4:Value}(h0:look E t0=some v0:=by exact rfl)(h1:look E t1=some v1:=by exact rfl)(h2:look E t2=some v2:=by exact rfl)(h3:look E t3=some v3:=by exact rfl)(h4:look E t4=some v4:=by exact rfl):Al [(t0,v0),(t1,v1),(t2,v2),(t3,v3),(t4,v4)] E:=Al.cons h0 (Al.cons h1 (Al.cons h2 (Al.cons h3 (Al.cons h4 (Al.nil)))))
theorem NM{E:BW}{t0:Nat}{v0:Value}{t1:Nat}{v1:Value}{t2:Nat}{v2:Value}{t3:Nat}{v3:Value}{t4:Nat}{v4:Value}{t5:Nat}{v5:Value}(h0:look E t0=some v0:=by exact rfl)(h1:look E t1=some v1:=by exact rfl)(h2:look E t2=some v2:=by exact rfl)(h3:look E t3=some v3:=by exact rfl)(h4:look E t4=some v4:=by exact rfl)(h5:look E t5=some v5:=by exact rfl):Al [(t0,v0),(t1,v1),(t2,v2),(t3,v3),(t4,v4),(t5,v5)] E:=Al.cons h0 (Al.cons h1 (Al.cons h2 (Al.cons h3 (Al.cons h4 (Al.cons h5 (Al.nil))))))
theorem Ff{E:BW}{t0:Nat}{v0:Value}{t1:Nat}{v1:Value}{t2:Nat}{v2:Value}{t3:Nat}{v3:Value}{t4:Nat}{v4:Value}{t5:Nat}{v5:Value}{t6:Nat}{v6:Value}(h0:look E t0=some v0:=by exact rfl)(h1:look E t1=some v1:=by exact rfl)(h2:look E t2=some v2:=by exact rfl)(h3:look E t3=some v3:=by exact rfl)(h4:look E t4=some v4:=by exact rfl)(h5:look E t5=some v5:=by exact rfl)(h6:look E t6=some v6:=by exact rfl):Al [(t0,v0),(t1,v1),(t2,v2),(t3,v3),(t4,v4),(t5,v5),(t6,v6)] E:=Al.cons h0 (Al.cons h1 (Al.cons h2 (Al.cons h3 (Al.cons h4 (Al.cons h5 (Al.cons h6 (Al.nil)))))))
theorem LO{E:BW}{t0:Nat}{v0:Value}{t1:Nat}{v1:Value}{t2:Nat}{v2:Value}{t3:Nat}{v3:Value}{t4:Nat}{v4:Value}{t5:Nat}{v5:Value}{t6:Nat}{v6:Value}{t7:Nat}{v7:Value}(h0:look E t0=some v0:=by exact rfl)(h1:look E t1=some v1:=by exact rfl)(h2:look E t2=some v2:=by exact rfl)(h3:look E t3=some v3:=by exact rfl)(h4:look E t4=some v4:=by exact rfl)(h5:look E t5=some v5:=by exact rfl)(h6:look E t6=some v6:=by exact rfl)(h7:look E t7=some v7:=by exact rfl):Al [(t0,v0),(t1,v1),(t2,v2),(t3,v3),(t4,v4),(t5,v5),(t6,v6),(t7,v7)] E:=Al.cons h0 (Al.cons h1 (Al.cons h2 (Al.cons h3 (Al.cons h4 (Al.cons h5 (Al.cons h6 (Al.cons h7 (Al.nil))))))))
theorem UP{E:BW}{t0:Nat}{v0:Value}{t1:Nat}{v1:Value}{t2:Nat}{v2:Value}{t3:Nat}{v3:Value}{t4:Nat}{v4:Value}{t5:Nat}{v5:Value}{t6:Nat}{v6:Value}{t7:Nat}{v7:Value}{t8:Nat}{v8:Value}(h0:look E t0=some v0:=by exact rfl)(h1:look E t1=some v1:=by exact rfl)(h2:look E t2=some v2:=by exact rfl)(h3:look E t3=some v3:=by exact rfl)(h4:look E t4=some v4:=by exact rfl)(h5:look E t5=some v5:=by exact rfl)(h6:look E t6=some v6:=by exact rfl)(h7:look E t7=some v7:=by exact rfl)(h8:look E t8=some v8:=by exact rfl):Al [(t0,v0),(t1,v1),(t2,v2),(t3,v3),(t4,v4),(t5,v5),(t6,v6),(t7,v7),(t8,v8)] E:=Al.cons h0 (Al.cons h1 (Al.cons h2 (Al.cons h3 (Al.cons h4 (Al.cons h5 (Al.cons h6 (Al.cons h7 (Al.cons h8 (Al.nil)))))))))
theorem Hx{E:BW}{t0:Nat}{v0:Value}{t1:Nat}{v1:Value}{t2:Nat}{v2:Value}{t3:Nat}{v3:Value}{t4:Nat}{v4:Value}{t5:Nat}{v5:Value}{t6:Nat}{v6:Value}{t7:Nat}{v7:Value}{t8:Nat}{v8:Value}{t9:Nat}{v9:Value}(h0:look E t0=some v0:=by exact rfl)(h1:look E t1=some v1:=by exact rfl)(h2:look E t2=some v2:=by exact rfl)(h3:look E t3=some v3:=by exact rfl)(h4:look E t4=some v4:=by exact rfl)(h5:look E t5=some v5:=by exact rfl)(h6:look E t6=some v6:=by exact rfl)(h7:look E t7=some v7:=by exact rfl)(h8:look E t8=some v8:=by exact rfl)(h9:look E t9=some v9:=by exact rfl):Al [(t0,v0),(t1,v1),(t2,v2),(t3,v3),(t4,v4),(t5,v5),(t6,v6),(t7,v7),(t8,v8),(t9,v9)] E:=Al.cons h0 (Al.cons h1 (Al.cons h2 (Al.cons h3 (Al.cons h4 (Al.cons h5 (Al.cons h6 (Al.cons h7 (Al.cons h8 (Al.cons h9 (Al.nil))))))))))
theorem Qq{E:BW}{t0:Nat}{v0:Value}{t1:Nat}{v1:Value}{t2:Nat}{v2:Value}{t3:Nat}{v3:Value}{t4:Nat}{v4:Value}{t5:Nat}{v5:Value}{t6:Nat}{v6:Value}{t7:Nat}{v7:Value}{t8:Nat}{v8:Value}{t9:Nat}{v9:Value}{t10:Nat}{v10:Value}(h0:look E t0=some v0:=by exact rfl)(h1:look E t1=some v1:=by exact rfl)(h2:look E t2=some v2:=by exact rfl)(h3:look E t3=some v3:=by exact rfl)(h4:look E t4=some v4:=by exact rfl)(h5:look E t5=some v5:=by exact rfl)(h6:look E t6=some v6:=by exact rfl)(h7:look E t7=some v7:=by exact rfl)(h8:look E t8=some v8:=by exact rfl)(h9:look E t9=some v9:=by exact rfl)(h10:look E t10=some v10:=by exact rfl):Al [(t0,v0),(t1,v1),(t2,v2),(t3,v3),(t4,v4),(t5,v5),(t6,v6),(t7,v7),(t8,v8),(t9,v9),(t10,v10)] E:=Al.cons h0 (Al.cons h1 (Al.cons h2 (Al.cons h3 (Al.cons h4 (Al.cons h5 (Al.cons h6 (Al.cons h7 (Al.cons h8 (Al.cons h9 (Al.cons h10 (Al.nil)))))))))))
theorem Abh{E:BW}{t0:Nat}{v0:Value}{t1:Nat}{v1:Value}{t2:Nat}{v2:Value}{t3:Nat}{v3:Value}{t4:Nat}{v4:Value}{t5:Nat}{v5:Value}{t6:Nat}{v6:Value}{t7:Nat}{v7:Value}{t8:Nat}{v8:Value}{t9:Nat}{v9:Value}{t10:Nat}{v10:Value}{t11:Nat}{v11:Value}(h0:look E t0=some v0:=by exact rfl)(h1:look E t1=some v1:=by exact rfl)(h2:look E t2=some v2:=by exact rfl)(h3:look E t3=some v3:=by exact rfl)(h4:look E t4=some v4:=by exact rfl)(h5:look E t5=some v5:=by exact rfl)(h6:look E t6=some v6:=by exact rfl)(h7:look E t7=some v7:=by exact rfl)(h8:look E t8=some v8:=by exact rfl)(h9:look E t9=some v9:=by exact rfl)(h10:look E t10=some v10:=by exact rfl)(h11:look E t11=some v11:=by exact rfl):Al [(t0,v0),(t1,v1),(t2,v2),(t3,v3),(t4,v4),(t5,v5),(t6,v6),(t7,v7),(t8,v8),(t9,v9),(t10,v10),(t11,v11)] E:=Al.cons h0 (Al.cons h1 (Al.cons h2 (Al.cons h3 (Al.cons h4 (Al.cons h5 (Al.cons h6 (Al.cons h7 (Al.cons h8 (Al.cons h9 (Al.cons h10 (Al.cons h11 (Al.nil))))))))))))
theorem Z4{E:BW}{t0:Nat}{v0:Value}{t1:Nat}{v1:Value}{t2:Nat}{v2:Value}{t3:Nat}{v3:Value}{t4:Nat}{v4:Value}{t5:Nat}{v5:Value}{t6:Nat}{v6:Value}{t7:Nat}{v7:Value}{t8:Nat}{v8:Value}{t9:Nat}{v9:Value}{t10:Nat}{v10:Value}{t11:Nat}{v11:Value}{t12:Nat}{v12:Value}(h0:look E t0=some v0:=by exact rfl)(h1:look E t1=some v1:=by exact rfl)(h2:look E t2=some v2:=by exact rfl)(h3:look E t3=some v3:=by exact rfl)(h4:look E t4=some v4:=by exact rfl)(h5:look E t5=some v5:=by exact rfl)(h6:look E t6=some v6:=by exact rfl)(h7:look E t7=some v7:=by exact rfl)(h8:look E t8=some v8:=by exact rfl)(h9:look E t9=some v9:=by exact rfl)(h10:look E t10=some v10:=by exact rfl)(h11:look E t11=some v11:=by exact rfl)(h12:look E t12=some v12:=by exact rfl):Al [(t0,v0),(t1,v1),(t2,v2),(t3,v3),(t4,v4),(t5,v5),(t6,v6),(t7,v7),(t8,v8),(t9,v9),(t10,v10),(t11,v11),(t12,v12)] E:=Al.cons h0 (Al.cons h1 (Al.cons h2 (Al.cons h3 (Al.cons h4 (Al.cons h5 (Al.cons h6 (Al.cons h7 (Al.cons h8 (Al.cons h9 (Al.cons h10 (Al.cons h11 (Al.cons h12 (Al.nil)))))))))))))
theorem TV{E:BW}{t0:Nat}{v0:Value}{t1:Nat}{v1:Value}{t2:Nat}{v2:Value}{t3:Nat}{v3:Value}{t4:Nat}{v4:Value}{t5:Nat}{v5:Value}{t6:Nat}{v6:Value}{t7:Nat}{v7:Value}{t8:Nat}{v8:Value}{t9:Nat}{v9:Value}{t10:Nat}{v10:Value}{t11:Nat}{v11:Value}{t12:Nat}{v12:Value}{t13:Nat}{v13:Value}(h0:look E t0=some v0:=by exact rfl)(h1:look E t1=some v1:=by exact rfl)(h2:look E t2=some v2:=by exact rfl)(h3:look E t3=some v3:=by exact rfl)(h4:look E t4=some v4:=by exact rfl)(h5:look E t5=some v5:=by exact rfl)(h6:look E t6=some v6:=by exact rfl)(h7:look E t7=some v7:=by exact rfl)(h8:look E t8=some v8:=by exact rfl)(h9:look E t9=some v9:=by exact rfl)(h10:look E t10=some v10:=by exact rfl)(h11:look E t11=some v11:=by exact rfl)(h12:look E t12=some v12:=by exact rfl)(h13:look E t13=some v13:=by exact rfl):Al [(t0,v0),(t1,v1),(t2,v2),(t3,v3),(t4,v4),(t5,v5),(t6,v6),(t7,v7),(t8,v8),(t9,v9),(t10,v10),(t11,v11),(t12,v12),(t13,v13)] E:=Al.cons h0 (Al.cons h1 (Al.cons h2 (Al.cons h3 (Al.cons h4 (Al.cons h5 (Al.cons h6 (Al.cons h7 (Al.cons h8 (Al.cons h9 (Al.cons h10 (Al.cons h11 (Al.cons h12 (Al.cons h13 (Al.nil))))))))))))))
theorem Ay{f:FuncId}{as:List Operand}{vs:List Value}{d:Nat}{T:TypeId}{pos:String}{af:Array Edge}{ts:Array TypeId}{Φ:Value→World→Prop}(ha:Sm E as=some vs)(hn:Nat.blt d n=true)(hc:AF P f vs w Φ)(h:∀v w',Φ v w'→LW P l Q rest D n ((d,v)::E) w'):LW P l Q (⟨some d,.call ⟨.value (.func f),⟨as⟩,ts⟩,T,pos,af,none⟩::rest) D n E w:=LW.call0 ha hn hc h
theorem Bj{f:FuncId}{fn:Func}{c:Code}{args:List Value}{Φ:Value→World→Prop}(hf:P.funcs[f]?=some fn)(hn:fn.ntmps=n)(h:CW P c (bodyPost P fn (FO Φ)) [] n (DV 0 args) w)(hb:fn.body=some c:=by exact rfl)(hc:Cx P f=true:=by kernel_rfl)(hl:Nat.ble args.length n=true:=by exact rfl):AF P f args w Φ:=AF.enter hf hb hn hc hl h
theorem ES{o:Oper}{j t:Nat}{b c:Bool}(h1:c=true→LW P l Q (o::rest) D n ((t,.bool true)::E) w)(h0:c=false→LW P l Q (o::rest) D n ((t,.bool false)::E) w)(hg:o.guard=some (j,b):=by exact rfl)(hj:BM l j=some t:=by exact rfl)(ht:look E t=some (.bool c):=by exact rfl):LW P l Q (o::rest) D n E w:=LW.part hg hj ht h1 h0
theorem Qlp{o:Oper}{j t:Nat}{b c:Bool}(h1:c=true→QL P l Q (o::rest) D n ((t,.bool true)::E) w)(h0:c=false→QL P l Q (o::rest) D n ((t,.bool false)::E) w)(hg:o.guard=some (j,b):=by exact rfl)(hj:BM l j=some t:=by exact rfl)(ht:look E t=some (.bool c):=by exact rfl):QL P l Q (o::rest) D n E w:=QL.part hg hj ht h1 h0
theorem LU{t:Nat}(h:QL P l Q l D n E w)(hm:P.follows .mixedOrders=true:=by kernel_rfl)(hB:Region.lexB .any l.toArray=true:=by kernel_rfl):CW P (.region t l.toArray true) Q D n E w:=CW.draw hm hB h
end
section
variable {P:Program} {S:World→Prop} {Q:Exit→Act→World→Prop} {D:List Deferred} {n m f d j t:Nat} {E:BW} {w:World} {l:List Oper} {ls ls':List Bool} {o:Oper} {v:Value} {op:Op} {T:TypeId} {pos:String} {af:Array Edge}
theorem Gkp(i:Nat)(h:GW P S l n Q f ls' D m ((d,v)::E) w)(hi:l[i]?=some o:=by exact rfl)(hg:o.guard=none:=by exact rfl)(hd:o.dst=some d:=by exact rfl)(hm:Nat.blt d m=true:=by exact rfl)(hy:∀w,S w→Y P D m E w o v:=by exact λw _=>Y.pure rfl)(hl:ls.set i true=ls':=by exact rfl)(a0:Nat.blt i n=true:=by exact rfl)(hk:D9 l n=true:=by kernel_rfl)(hf:Region.free .any l.toArray ⟨ls⟩ i=true:=by kernel_rfl)(hr:(Region.ready .any l.toArray ⟨ls⟩).contains i=true:=by kernel_rfl)(ht:∀c a w,Q (.panic c) (a.put o.dst v) w→Q (.panic c) a w:=by exact λ_ _ _ h=>h):GW P S l n Q (f+1) ls D m E w:=GW.take i hi hg hd hm hy hl a0 hk hf hr ht h
theorem Gkw(i:Nat){b:Bool}(h:GW P S l n Q f ls' D m ((d,v)::E) w)(hi:l[i]?=some ⟨some d,op,T,pos,af,some (j,b)⟩:=by exact rfl)(hm:Nat.blt d m=true:=by exact rfl)(hj:BM l j=some t:=by exact rfl)(hb:look E t=some (.bool b):=by exact rfl)(hy:∀w,S w→Y P D m E w ⟨some d,op,T,pos,af,none⟩ v:=by exact λw _=>Y.pure rfl)(hl:ls.set i true=ls':=by exact rfl)(a0:Nat.blt i n=true:=by exact rfl)(hk:D9 l n=true:=by kernel_rfl)(hf:Region.free .any l.toArray ⟨ls⟩ i=true:=by kernel_rfl)(hr:(Region.ready .any l.toArray ⟨ls⟩).contains i=true:=by kernel_rfl)(ht:∀c a w,Q (.panic c) (a.put (some d) v) w→Q (.panic c) a w:=by exact λ_ _ _ h=>h):GW P S l n Q (f+1) ls D m E w:=GW.takeW i hi hm hj hb hy hl a0 hk hf hr ht h
theorem Gks(i:Nat){b c:Bool}(h:GW P S l n Q f ls' D m ((d,undef)::E) w)(hi:l[i]?=some o:=by exact rfl)(hg:o.guard=some (j,b):=by exact rfl)(hd:o.dst=some d:=by exact rfl)(hm:Nat.blt d m=true:=by exact rfl)(hj:BM l j=some t:=by exact rfl)(hb:look E t=some (.bool c):=by exact rfl)(a0:(c == b)=false:=by exact rfl)(hl:ls.set i true=ls':=by exact rfl)(a1:Nat.blt i n=true:=by exact rfl)(hk:D9 l n=true:=by kernel_rfl)(hf:Region.free .any l.toArray ⟨ls⟩ i=true:=by kernel_rfl)(hr:(Region.ready .any l.toArray ⟨ls⟩).contains i=true:=by kernel_rfl)(ht:∀c a w,Q (.panic c) (a.put o.dst undef) w→Q (.panic c) a w:=by exact λ_ _ _ h=>h):GW P S l n Q (f+1) ls D m E w:=GW.skip i hi hg hd hm hj hb a0 hl a1 hk hf hr ht h
theorem BE(i:Nat)(h:S w→LW P l (Exit.then (Gp P S l n Q f ls') Q) [o] D m E w)(hr:Region.ready .any l.toArray ⟨ls⟩=[i]:=by kernel_rfl)(hi:l[i]?=some o:=by exact rfl)(hl:ls.set i true=ls':=by exact rfl)(a0:Nat.blt i n=true:=by exact rfl):GW P S l n Q (f+1) ls D m E w:=GW.one i hr hi hl a0 h
end
end Go.E

