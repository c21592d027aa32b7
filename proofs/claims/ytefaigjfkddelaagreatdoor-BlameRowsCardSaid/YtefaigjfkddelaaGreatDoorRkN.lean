/-
  Joined by program out of the texts Close7 Facts.
-/
import Derived.Test.YtefaigjfkddelaaGreatDoorRows
import Derived.Test.YtefaigjfkddelaaGreatDoorTie
import Derived.Test.YtefaigjfkddelaaGreatDoorRkA
import Derived.ProofKit
import Derived.LaidMore
import Derived.OpenShut
import Derived.Stop.Joined
import Derived.Stop.LaidErr
import Derived.SevenTiedAt
import Derived.Lay
import Derived.JoinedOf
import Derived.KernelRfl
namespace Go.Proofs.YtefaigjfkddelaaGreatDoor
open Go Go.E Go.ChangeShapes Go.WideShapes Go.ChangeAt Go.RowKit
abbrev Js : List (String × DataW Unit) := [("math/bits.deBruijn32tab", Rows.laid_math_bits_deBruijn32tab), ("math/bits.deBruijn64tab", Rows.laid_math_bits_deBruijn64tab), ("internal/strconv.uint64pow10", Rows.laid_internal_strconv_uint64pow10), ("unicode/utf8.acceptRanges", Rows.laid_unicode_utf8_acceptRanges), ("strconv.ErrRange", Rows.laid_strconv_ErrRange), ("strconv.ErrSyntax", Rows.laid_strconv_ErrSyntax), ("unicode/utf8.first", Rows.laid_unicode_utf8_first)]
theorem XK:ownKnob Tryz.prog.godebug=none:=by kernel_rfl
theorem UU:laidOutB Tryz.prog=true:=by kernel_rfl
theorem Ms {P:Program} {n nm:String} {d:DataW Unit} {r:List (String×DataW Unit)} {W:World} {g:Nat} {ti:TypeId} {ms:Array (String×TypeId)}
  (h:laidMet P ((n,.iface nm d)::r) W) (hg:P.globalNamed n=some g) (ht:(P.globals[g]?).map (·.type)=some ti) (hi:P.underlying ti=some (.interface ms)) :
  ∃t v,W.cell? ⟨g,0,none⟩=some (.iface t v):=by
 obtain ⟨ps,⟨g0,t0,cs0,f0,p0,q0,a0,a2,a3,a4,_,e0⟩,_,a1⟩:=h;obtain rfl:=Option.some.inj (hg.symm.trans a0);obtain rfl:=Option.some.inj (ht.symm.trans a2);obtain ⟨l0⟩:=cs0;obtain ⟨f1,u,v,rfl,_,_⟩:=iface_of_trod hi a4;exact ⟨u,v,by simpa using World.var?_cell a0 a3 0⟩
theorem Wl:(Rows.laid_internal_strconv_uint64pow10:DataW Unit)=Lib.tabData .u64 Lib.pow10Tab:=by kernel_rfl
theorem OA {W:World} (hs:W.ShapedOpen Tryz.prog) (h:laidMetH Tryz.prog Js W):CU W:=by
 rw [MakeChecks.laidMetH_plain _ _ _ (by kernel_rfl)] at h;have h3:=h.tail.tail;rw [Wl] at h3;exact ⟨hs,Lib.tabIs_of_head (g:=2) (t:=247) (e:=64) (n:=20) (by kernel_rfl) (by kernel_rfl) (by kernel_rfl) (by kernel_rfl) (by kernel_rfl) (by kernel_rfl) h3,
  Ms h.tail.tail.tail.tail.tail (g:=0) (ti:=171) (by kernel_rfl) (by kernel_rfl) Tryz.underlying171,
  Ms h.tail.tail.tail.tail (g:=1) (ti:=171) (by kernel_rfl) (by kernel_rfl) Tryz.underlying171⟩
theorem VI (os:Os) (args:Array Value):laidMetH Tryz.prog Js ((World.laidAll Tryz.prog os Js).forCall (λ_ _=>0) ⟨#[],args,[]⟩).memory:=by
 rw [MakeChecks.laidMetH_plain _ _ _ (by kernel_rfl)];exact laidMet_laidAll _ (by kernel_rfl) (by kernel_rfl)
theorem WC {H:Type} {enc:TypeId×Value→H} {W W':World} (hb:Below W.heap.size W W'):∀{ts:List TypeId} {vs:List Value} {ds:List (DataW H)} {ps:List MemPlace},
  (∀t∈ts,Tryz.prog.readableRec t=true∧t<Tryz.prog.types.size)→DataW.TrodAll enc Tryz.prog W 0 (λ_=>true) true ts vs ds ps→(∀x∈ps,x.block<W.heap.size)→
  DataW.TrodAll enc Tryz.prog W' 0 (λb=>decide (b<W.heap.size)) true ts vs ds ps
 | [],_,_,_,_,h,_=>by
  obtain ⟨rfl,rfl,rfl⟩:=trodAll_nil h
  exact rfl
 | t::ts,_,_,_,ht,h,hl=>by
  obtain ⟨v,vs,d,ds,p,q,rfl,rfl,rfl,hd,hr⟩:=trodAll_cons h;exact ⟨p,q,Below.trod UU (ht t (by simp)).1 (ht t (by simp)).2 hd hb (λx hx=>hl x (by simp [hx])),WC hb (λt h=>ht t (by simp [h])) hr (λx hx=>hl x (by simp [hx])),rfl⟩
set_option maxRecDepth 100000 in
theorem Rr {os:Os} (started:os.Started) {f:FuncId} {fn:Func} {s:ChangeSpec} {H:Type} {enc:TypeId×Value→H}
  (noInit:Tryz.prog.inits.idxOf? f=none) (hfn:Tryz.prog.funcs[f]?=some fn) (hres:fn.resultTypes=#[4])
  (hpar:∀t∈fn.params.toList,Tryz.prog.readableRec t=true∧t<Tryz.prog.types.size)
  (hvars:s.vars=[])
  (hs:∀ds:List (DataW H),ds.length=fn.params.size→s.fn H ds={results:=[.lit (.bool true)],args:=ds})
  (witness:∃(w:World) (tape:Tape) (i:Input),w.os=os∧(w.forCall tape i).Shaped Tryz.prog∧i.vars=[]∧Input.okWide Tryz.prog (w.forCall tape i) .any w.heap.size f i∧
   ((s.pre enc Tryz.prog fn [] false (w.forCall tape i).memory i.args∧laidMetH Tryz.prog Js (w.forCall tape i).memory)∧sizedMet enc Tryz.prog fn (OpenSpec.ofChange s) false (w.forCall tape i).memory i.args)∧({}:Assume).holds Tryz.prog (lone (Frame.enter Tryz.prog f i.args .normal) [] (w.forCall tape i)))
  (contract:∀(W:World) (base:Nat) (args:Array Value) (ds:List (DataW H)) (p:List MemPlace),CU W→
   (∀(j:Nat) t v,fn.params[j]?=some t→args[j]?=some v→Value.okWide Tryz.prog W .any base t v)→
   DataW.TrodAll enc Tryz.prog W 0 (λ_=>true) true fn.params.toList args.toList ds p→AA Tryz.prog f args.toList W (λv w'=>v=.bool true∧Ae W w')) :
  ReturnsInHanded {} Tryz.checked os f .any (λw args=>(s.pre enc Tryz.prog fn [] false w args∧laidMetH Tryz.prog Js w)∧sizedMet enc Tryz.prog fn (OpenSpec.ofChange s) false w args)
   (s.post enc Tryz.prog fn false true false false):=by
 refine returnsInHanded_of_calls XK started noInit witness ?_;intro w tape i _ a5 _ a6 a0 a1;obtain ⟨_,_,_,fn',a2,_,_,_,_,a3⟩:=a6;have e:fn'=fn:=Option.some.inj (a2.symm.trans hfn);subst e;obtain ⟨⟨⟨ds,gs,before,hw,hc⟩,hx⟩,hz⟩:=a0;have a4:DataW.Whole enc Tryz.prog fn'.params.toList s.vars false (w.forCall tape i) i.args.toList ds gs before:=DataW.Whole.of_heap (w':=w.forCall tape i) (by rfl) hw;have hl:laidMetH Tryz.prog Js (w.forCall tape i):=hx.of_heap (by rfl);have hW:=a4;obtain ⟨p,q,hA,hV,rfl,a9,aa⟩:=a4;rw [hvars] at hV;obtain ⟨rfl,rfl⟩:=trodVars_none hV;have a7:∀x∈p,x.block<(w.forCall tape i).heap.size:=λx hx=>hW.lt x (by simp [hx]);have a8:ds.length=fn'.params.size:=by
  have:∀{ts:List TypeId} {vs:List Value} {ds:List (DataW H)} {ps:List MemPlace},DataW.TrodAll enc Tryz.prog (w.forCall tape i) 0 (λ_=>true) true ts vs ds ps→ds.length=ts.length:=by
   intro ts
   induction ts with
   | nil=>intro vs ds ps h;obtain ⟨rfl,rfl,rfl⟩:=trodAll_nil h;rfl
   | cons t ts ih=>intro vs ds ps h;obtain ⟨v,vs,d,ds,p,q,rfl,rfl,rfl,hd,hr⟩:=trodAll_cons h;simp [ih hr]
  simpa using this hA
 have e1:s.fn H (ds++[])={results:=[.lit (.bool true)],args:=ds}:=by rw [List.append_nil];exact hs ds a8
 refine (contract (w.forCall tape i) w.heap.size i.args ds p (OA a5 hl) a3 hA).2.mono λe W' he=>?_;obtain ⟨v,rfl,rfl,hE⟩:=he;refine ChangeSpec.post_blind (W:=w.forCall tape i) (W':=W') ⟨ds,[],p++[],[],p,[],hW,?_,?_,?_,?_,λh=>by cases h⟩
 ·rw [e1,hres];exact trodAll_mk1 (shut_bool Tryz.underlying4 true)
 ·rw [e1];exact WC (Ae.toBelow hE) hpar hA a7
 ·rw [e1,hvars];rfl
 ·exact (Ae.toBelow hE).frame _
open Go
theorem XG {a b:Bool} (h:a=true) (k:b=true):(a&&b)=true:=by rw [h,k];rfl
theorem XI:Tryz.prog.mayEnter=true:=by kernel_rfl
theorem Xs:(Tryz.prog.make == some Make.cut)=true:=by kernel_rfl
theorem VZ:(false == Tryz.prog.liftsFinal)=true:=by kernel_rfl
theorem WM:true=Tryz.prog.looks []:=by kernel_rfl
theorem Xr : Tryz.prog.mainIs = some (true, "a1ee3375d75279109cd3520cc4e359e095d378b7d9d85e3f712764b05672bf85".toList) := by kernel_rfl
end Go.Proofs.YtefaigjfkddelaaGreatDoor
