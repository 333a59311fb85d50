/-
 For every input the statement SimplexExtreme returns true and leaves its arguments as they were. Conditions: the listed package-level variables hold what the program's text lays (tied).
-/
import Derived.Test.YtdcfbgmbaniglaaGreatDoorExtG
set_option maxHeartbeats 8000000
set_option linter.unusedVariables false
set_option linter.unusedSimpArgs false
namespace Go.Proofs.YtdcfbgmbaniglaaGreatDoor
open Go Go.GL Go.ChangeShapes Go.WideShapes Go.RowKit
set_option maxRecDepth 100000
theorem zg0:Tryz.prog.underlying 9=some .string:=by kernel_rfl
theorem zig:Tryz.prog.cellsOf 9=1:=by kernel_rfl
theorem pS {H:Type}{enc:TypeId×Value→H}{P:Program}{w:World}{base:Nat}{spare:Nat→Bool}{held:Bool}{t t1 t2:TypeId}{args:Array Value}{ds:List (DataW H)}{ps:List MemPlace}(h:DataW.TrodAll enc P w base spare held [t,t1,t2] args.toList ds ps):
  ∃v v1 v2 d d1 d2 p p1 p2,args=#[v,v1,v2]∧ds=[d,d1,d2]∧ps=p++(p1++p2)∧DataW.Trod enc P w base spare held t v d p∧DataW.Trod enc P w base spare held t1 v1 d1 p1∧DataW.Trod enc P w base spare held t2 v2 d2 p2:=by
 obtain ⟨v,vs,d,ds0,p,q0,hargs,rfl,rfl,hd,r0⟩:=trodAll_cons h
 obtain ⟨v1,vs1,d1,ds1,p1,q1,rfl,rfl,rfl,hd1,r1⟩:=trodAll_cons r0
 obtain ⟨v2,vs2,d2,ds2,p2,q2,rfl,rfl,rfl,hd2,r2⟩:=trodAll_cons r1
 obtain ⟨rfl,rfl,rfl⟩:=trodAll_nil r2
 exact ⟨v,v1,v2,d,d1,d2,p,p1,p2,by cases args;simp_all,rfl,by simp,hd,hd1,hd2⟩
theorem simplexExtreme_lifted (os:Os)(started:os.Started)(H:Type)(enc:TypeId×Value→H):
  ReturnsInHanded {} Tryz.checked os 3 .any (fun w args=>(Rows.simplexExtremeSpec.pre enc Tryz.prog Tryz.f3 [] false w args∧laidMet Tryz.prog fJ w)∧sizedMet enc Tryz.prog Tryz.f3 (OpenSpec.ofChange Rows.simplexExtremeSpec) false w args)
   (Rows.simplexExtremeSpec.post enc Tryz.prog Tryz.f3 false true false false):=by
 refine returnsInHanded_of_change_and (C:=Tryz.checked) (X:=fun w _=>laidMet Tryz.prog fJ w) (fun _ _ _ hh h=>h.of_heap hh) own started (by kernel_rfl) Tryz.func3
  (ChangeSpec.witness_at (enc:=enc) (C:=Tryz.checked) (os:=os) (X:=fun w _=>laidMet Tryz.prog fJ w) false (mB os) #[.slice none 0 0,.slice none 0 0,.slice none 0 0] 8 rfl (by kernel_rfl) (by kernel_rfl) (by kernel_rfl) (by kernel_rfl) (by kernel_rfl) (oG os _)) ?_
 intro W base args ds gs before hval0 hW _ _ hL _
 have hval:∀(j:Nat) t v,(Tryz.f3).params[j]?=some t→args[j]?=some v→Value.okWide Tryz.prog W .any base t v:=hval0
 have hW':=hW
 obtain ⟨p,q,hA0,hV0,rfl,hfz,hnd⟩:=hW
 have hA:DataW.TrodAll enc Tryz.prog W 0 (fun _=>true) true (Tryz.f3).params.toList args.toList ds p:=hA0
 have hV:DataW.TrodVars enc Tryz.prog W (fun _=>true) [] gs q:=hV0
 rw [Tryz.params3] at hA hval
 obtain ⟨v0,v1,v2,d0,d1,d2,p0,p1,p2,rfl,rfl,rfl,h0,h1,h2⟩:=pS hA
 obtain ⟨rfl,rfl⟩:gs=[]∧q=[]:=by
  cases gs with
  |nil=>exact ⟨rfl,hV⟩
  |cons g r=>exact absurd hV (by intro h;cases h)
 have e1:Rows.simplexExtremeSpec.fn H ([d0,d1,d2]++[])={results:=[.lit (.bool true)],args:=[d0,d1,d2]}:=by simp [Rows.simplexExtremeSpec]
 have hlt:∀x∈p0++(p1++p2),x.block<W.heap.size:=fun x hx=>hW'.lt x (by simpa using hx)
 refine (eo (W:=W) 3 [v0,v1,v2] 15 fun n h20 hWn hbd=>?_).mono fun e W' ⟨he,hb⟩=>?_
 ·obtain ⟨f0,h0⟩:=h0
  obtain ⟨f1,h1⟩:=h1
  obtain ⟨f2,h2⟩:=h2
  have hs:∀{v:Value} {f:Nat} {d:DataW H} {p:List MemPlace},DataW.trod enc Tryz.prog W 0 (fun _=>true) true f 22 v.cells.toList=some (d,p)→Value.okWide Tryz.prog W .any base 22 v→bd (up nm v)≤3*n→∃a l k S,up nm v=.slice a l k∧Sl (hv (wH W)) n 1 (.slice a l k) (strs S):=by
   intro v f d p ht hok hb
   have hv1:v.cells.toList=[v]:=by
    cases v<;>try rfl
    all_goals (unfold Value.okWide at hok;rw [Tryz.underlying22] at hok;simp [Cell.okWide,Cell.ok,Tryz.underlying22] at hok)
   rw [hv1] at ht
   obtain ⟨S,s1,_⟩:=dD hWn Tryz.underlying22 zg0 zig ht hb
   obtain ⟨a,l,k,e,_⟩:=s1.len
   rw [e] at s1
   exact ⟨a,l,k,S,e,s1⟩
  obtain ⟨ax,lx,cx,S,ex,ix⟩:=hs h0 (hval 0 _ v0 rfl rfl) (hbd _ (by simp))
  obtain ⟨ay,ly,cy,R,ey,iy⟩:=hs h1 (hval 1 _ v1 rfl rfl) (hbd _ (by simp))
  obtain ⟨az,lz,cz,C,ez,iz⟩:=hs h2 (hval 2 _ v2 rfl rfl) (hbd _ (by simp))
  show VF _ _ [up nm v0,up nm v1,up nm v2] _ _ _
  rw [ex,ey,ez]
  exact simplexExtreme_ok 0 ⟨zar hL,h20⟩ ix iy iz
 subst he
 refine ⟨_,rfl,_,_,_,[],p0++(p1++p2),[],hW',?_,?_,?_,hb.frame _,fun h=>by cases h⟩
 ·rw [e1];exact trodAll_mk1 (shut_bool Tryz.underlying4 true)
 ·rw [e1]
  have hr0:Tryz.prog.readableRec 22=true:=by kernel_rfl
  have ht0:22<Tryz.prog.types.size:=of_decide_eq_true (by kernel_rfl)
  exact trodAll_mk3 (Below.trod kD hr0 ht0 h0 hb fun x hx=>hlt x (by simp [hx])) (Below.trod kD hr0 ht0 h1 hb fun x hx=>hlt x (by simp [hx])) (Below.trod kD hr0 ht0 h2 hb fun x hx=>hlt x (by simp [hx]))
 rw [e1];rfl
theorem simplexExtreme_holds:Rows.SimplexExtremeSaid:=
 OpenClaim.holds_of_wide 3 Tryz.f3 rfl rfl rfl rfl rfl rfl rfl ⟨rfl,rfl,rfl,rfl,rfl⟩ rfl rfl rfl rfl rfl (by kernel_rfl) Tryz.func3 simplexExtreme_closed
  (of_decide_eq_true (by kernel_rfl)) (by unfold Func.isWrapper;rw [if_neg (of_decide_eq_false (by kernel_rfl))];exact ⟨rfl,rfl⟩)
  (fun os started H enc _=>simplexExtreme_lifted os started H enc)
theorem simplexExtreme_card:Rows.SimplexExtremeCardSaid:=
 Claim7.holds_tied_plain_at .later [] [.data,.data,.data] true (true, "ca13ed52aa73e26b1f1858c515a13ce3941ea870fffdf75000a090f563da4b0f") false
  simplexExtreme_holds (fun _ h=>by cases h) (by kernel_rfl) (fun _ h=>by cases h) simplexExtreme_row_tie rfl ⟨rfl,rfl⟩ (by kernel_rfl) rfl
  (fun f fn hf hfn=>by
   obtain rfl:f=3:=Option.some.inj ((show Tryz.prog.funcNamed Rows.simplexExtremeRow.func=some 3 by kernel_rfl).symm.trans hf) |>.symm
   obtain rfl:fn=Tryz.f3:=(Option.some.inj (Tryz.func3.symm.trans hfn)).symm
   exact ⟨by kernel_rfl,fun j t ht=>by
    rw [Tryz.params3] at ht
    have h3:t=22:=by
     rcases j with _|_|_|j
     ·simpa using ht.symm
     ·simpa using ht.symm
     ·simpa using ht.symm
     simp at ht
    subst h3
    exact (show Tryz.prog.wantsStandIn 22=false by kernel_rfl)⟩)
  (by kernel_rfl)
end Go.Proofs.YtdcfbgmbaniglaaGreatDoor
