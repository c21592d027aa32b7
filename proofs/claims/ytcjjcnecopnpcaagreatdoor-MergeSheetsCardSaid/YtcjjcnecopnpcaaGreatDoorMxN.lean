/-
  Joined by program out of the texts Close7 Facts.
-/
import Derived.Test.YtcjjcnecopnpcaaGreatDoorRows
import Derived.Test.YtcjjcnecopnpcaaGreatDoorTie
import Derived.Test.YtcjjcnecopnpcaaGreatDoorMxA
import Derived.ProofKit
import Derived.LaidMore
import Derived.OpenShut
import Derived.Stop.Joined
import Derived.Stop.LaidErr
import Derived.SevenTiedAt
import Derived.Lay
import Derived.JoinedOf
import Derived.KernelRfl
namespace Go.Proofs.YtcjjcnecopnpcaaGreatDoor
open Go.Proofs.Tryz
open Go Go.E Go.ChangeShapes Go.WideShapes Go.ChangeAt Go.RowKit
abbrev H3 : List (String × DataW Unit) := [("math/bits.deBruijn32tab", Rows.laid_math_bits_deBruijn32tab), ("math/bits.deBruijn64tab", Rows.laid_math_bits_deBruijn64tab), ("internal/strconv.uint64pow10", Rows.laid_internal_strconv_uint64pow10), ("unicode/utf8.acceptRanges", Rows.laid_unicode_utf8_acceptRanges), ("strconv.ErrRange", Rows.laid_strconv_ErrRange), ("strconv.ErrSyntax", Rows.laid_strconv_ErrSyntax), ("unicode/utf8.first", Rows.laid_unicode_utf8_first)]
theorem AaZ:ownKnob prog.godebug=none:=by kernel_rfl
theorem Xv:laidOutB prog=true:=by kernel_rfl
theorem MG{P:Program}{n nm:String}{d:DataW Unit}{r:List (String×DataW Unit)}{W:World}{g:Nat}{ti:TypeId}{ms:Array (String×TypeId)}
  (h:laidMet P ((n,.iface nm d)::r) W) (hg:P.globalNamed n=some g) (ht:(P.globals[g]?).map (·.type)=some ti) (hi:P.underlying ti=some (.interface ms)) :
  ∃t v,W.cell? ⟨g,0,none⟩=some (.iface t v):=by
 obtain⟨ps,⟨g0,t0,cs0,f0,p0,q0,a0,a2,a3,a4,_,e0⟩,_,a1⟩:=h;obtain rfl:=Abm (hg.symm.trans a0);obtain rfl:=Abm (ht.symm.trans a2);obtain⟨l0⟩:=cs0;obtain⟨f1,u,v,rfl,_,_⟩:=iface_of_trod hi a4;exact⟨u,v,by simpa using World.var?_cell a0 a3 0⟩
theorem Zg:(Rows.laid_internal_strconv_uint64pow10:DataW Unit)=Lib.tabData .u64 Lib.pow10Tab:=by kernel_rfl
theorem Pp{W:World}(hs:W.ShapedOpen prog)(h:laidMetH prog H3 W):CQ W:=by
 rw[MakeChecks.laidMetH_plain _ _ _ AdF] at h;have h3:=h.tail.tail;rw[Zg] at h3;exact⟨hs,Lib.tabIs_of_head (g:=2) (t:=312) (e:=92) (n:=20) AdF AdF AdF AdF AdF AdF h3,
  MG h.tail.tail.tail.tail.tail (g:=0) (ti:=220) AdF AdF underlying220,
  MG h.tail.tail.tail.tail (g:=1) (ti:=220) AdF AdF underlying220⟩
theorem TZ(os:Os)(args:Array Value):laidMetH prog H3 ((World.laidAll prog os H3).forCall (λ_ _=>0) ⟨#[],args,[]⟩).memory:=by
 rw[MakeChecks.laidMetH_plain _ _ _ AdF];exact laidMet_laidAll _ AdF AdF
theorem stays{H:Type}{enc:TypeId×Value→H}{W W':World}(hb:Below W.heap.size W W'):∀{ts:List TypeId} {vs:List Value} {ds:List (DataW H)} {ps:List MemPlace},
  (∀t∈ts,prog.readableRec t=true∧t<prog.types.size)→DataW.TrodAll enc prog W 0 (λ_=>true) true ts vs ds ps→(∀x∈ps,x.block<W.heap.size)→
  DataW.TrodAll enc prog W' 0 (λb=>decide (b<W.heap.size)) true ts vs ds ps
 | [],_,_,_,_,h,_=>by
  obtain⟨rfl,rfl,rfl⟩:=trodAll_nil h
  exact rfl
 | t::ts,_,_,_,ht,h,hl=>by
  obtain⟨v,vs,d,ds,p,q,rfl,rfl,rfl,hd,hr⟩:=trodAll_cons h;exact⟨p,q,Below.trod Xv (ht t AdM).1 (ht t AdM).2 hd hb (λx hx=>hl x Ae9),stays hb (λt h=>ht t (by simp[h])) hr (λx hx=>hl x Ae9),rfl⟩
set_option maxRecDepth 100000 in
theorem MH{os:Os}(started:os.Started){f:FuncId}{fn:Func}{s:ChangeSpec}{H:Type}{enc:TypeId×Value→H}
  (noInit:prog.inits.idxOf? f=none) (hfn:prog.funcs[f]?=some fn) (hres:fn.resultTypes=#[4])
  (hpar:∀t∈fn.params.toList,prog.readableRec t=true∧t<prog.types.size)
  (hvars:s.vars=[])
  (hs:∀ds:List (DataW H),ds.length=fn.params.size→s.fn H ds={results:=[.lit (.bool true)],args:=ds})
  (witness:∃(w:World) (tape:Tape) (i:Input),w.os=os∧(w.forCall tape i).Shaped prog∧i.vars=[]∧Input.okWide prog (w.forCall tape i) .any w.heap.size f i∧
   ((s.pre enc prog fn [] false (w.forCall tape i).memory i.args∧laidMetH prog H3 (w.forCall tape i).memory)∧sizedMet enc prog fn (OpenSpec.ofChange s) false (w.forCall tape i).memory i.args)∧({}:Assume).holds prog (lone (Frame.enter prog f i.args .normal) [] (w.forCall tape i)))
  (contract:∀(W:World) (base:Nat) (args:Array Value) (ds:List (DataW H)) (p:List MemPlace),CQ W→
   (∀(j:Nat) t v,fn.params[j]?=some t→args[j]?=some v→Value.okWide prog W .any base t v)→
   DataW.TrodAll enc prog W 0 (λ_=>true) true fn.params.toList args.toList ds p→AF prog f args.toList W (λv w'=>v=.bool true∧Ai W w')) :
  ReturnsInHanded {} checked os f .any (λw args=>(s.pre enc prog fn [] false w args∧laidMetH prog H3 w)∧sizedMet enc prog fn (OpenSpec.ofChange s) false w args)
   (s.post enc prog fn false true false false):=by
 refine returnsInHanded_of_calls AaZ started noInit witness ?_;intro w tape i _ a5 _ a6 a0 a1;obtain⟨_,_,_,fn',a2,_,_,_,_,a3⟩:=a6;have e:fn'=fn:=Abm (a2.symm.trans hfn);subst e;obtain⟨⟨⟨ds,gs,before,hw,hc⟩,hx⟩,hz⟩:=a0;have a4:DataW.Whole enc prog fn'.params.toList s.vars false (w.forCall tape i) i.args.toList ds gs before:=DataW.Whole.of_heap (w':=w.forCall tape i) (by rfl) hw;have hl:laidMetH prog H3 (w.forCall tape i):=hx.of_heap (by rfl);have hW:=a4;obtain⟨p,q,hA,hV,rfl,a9,aa⟩:=a4;rw[hvars] at hV;obtain⟨rfl,rfl⟩:=trodVars_none hV;have a7:∀x∈p,x.block<(w.forCall tape i).heap.size:=λx hx=>hW.lt x Ae9;have a8:ds.length=fn'.params.size:=by
  have:∀{ts:List TypeId} {vs:List Value} {ds:List (DataW H)} {ps:List MemPlace},DataW.TrodAll enc prog (w.forCall tape i) 0 (λ_=>true) true ts vs ds ps→ds.length=ts.length:=by
   intro ts
   induction ts with
   | nil=>intro vs ds ps h;obtain⟨rfl,rfl,rfl⟩:=trodAll_nil h;rfl
   | cons t ts ih=>intro vs ds ps h;obtain⟨v,vs,d,ds,p,q,rfl,rfl,rfl,hd,hr⟩:=trodAll_cons h;simp[ih hr]
  simpa using this hA
 have e1:s.fn H (ds++[])={results:=[.lit (.bool true)],args:=ds}:=by rw[Aby];exact hs ds a8
 refine(contract (w.forCall tape i) w.heap.size i.args ds p (Pp a5 hl) a3 hA).2.mono λe W' he=>?_;obtain⟨v,rfl,rfl,hE⟩:=he;refine ChangeSpec.post_blind (W:=w.forCall tape i) (W':=W') ⟨ds,[],p++[],[],p,[],hW,?_,?_,?_,?_,λh=>by cases h⟩
 ·rw[e1,hres];exact trodAll_mk1 (shut_bool underlying4 true)
 ·rw[e1];exact stays (Ai.toBelow hE) hpar hA a7
 ·rw[e1,hvars];rfl
 ·exact(Ai.toBelow hE).frame _
open Go
theorem Aa0{a b:Bool}(h:a=true)(k:b=true):(a&&b)=true:=by rw[h,k];rfl
theorem Aa7:prog.mayEnter=true:=by kernel_rfl
theorem ZB:(prog.make == some Make.cut)=true:=by kernel_rfl
theorem Us:(false == prog.liftsFinal)=true:=by kernel_rfl
theorem X3:true=prog.looks []:=by kernel_rfl
theorem ZA : prog.mainIs = some (true, "45fe76bfface8cd7f167b49b9bd043f235505513f9cd3f11f75ad6fa32c28959".toList) := by kernel_rfl
end Go.Proofs.YtcjjcnecopnpcaaGreatDoor
