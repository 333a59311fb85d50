/-
 For every input the statement SimplexBound returns true and leaves its arguments as they were. Conditions: the listed package-level variables hold what the program's text lays (tied).
-/
import Derived.Test.YtlmbghgklnmlkaaGreatDoorBndF
set_option maxHeartbeats 8000000
set_option linter.unusedVariables false
set_option linter.unusedSimpArgs false
namespace Go.Proofs.YtlmbghgklnmlkaaGreatDoor
open Go Go.GL Go.ChangeShapes Go.WideShapes Go.RowKit
set_option maxRecDepth 100000
theorem pS {H:Type}{enc:TypeId×Value→H}{P:Program}{w:World}{base:Nat}{spare:Nat→Bool}{held:Bool}{t t1 t2 t3:TypeId}{args:Array Value}{ds:List (DataW H)}{ps:List MemPlace}(h:DataW.TrodAll enc P w base spare held [t,t1,t2,t3] args.toList ds ps):
  ∃v v1 v2 v3 d d1 d2 d3 p p1 p2 p3,args=#[v,v1,v2,v3]∧ds=[d,d1,d2,d3]∧ps=p++(p1++(p2++p3))∧DataW.Trod enc P w base spare held t v d p∧DataW.Trod enc P w base spare held t1 v1 d1 p1∧DataW.Trod enc P w base spare held t2 v2 d2 p2∧DataW.Trod enc P w base spare held t3 v3 d3 p3:=by
 obtain ⟨v,vs,d,ds0,p,q0,hargs,rfl,rfl,hd,r0⟩:=trodAll_cons h
 obtain ⟨v1,vs1,d1,ds1,p1,q1,rfl,rfl,rfl,hd1,r1⟩:=trodAll_cons r0
 obtain ⟨v2,vs2,d2,ds2,p2,q2,rfl,rfl,rfl,hd2,r2⟩:=trodAll_cons r1
 obtain ⟨v3,vs3,d3,ds3,p3,q3,rfl,rfl,rfl,hd3,r3⟩:=trodAll_cons r2
 obtain ⟨rfl,rfl,rfl⟩:=trodAll_nil r3
 exact ⟨v,v1,v2,v3,d,d1,d2,d3,p,p1,p2,p3,by cases args;simp_all,rfl,by simp,hd,hd1,hd2,hd3⟩
theorem simplexBound_lifted (os:Os)(started:os.Started)(H:Type)(enc:TypeId×Value→H):
  ReturnsInHanded {} Tryz.checked os 5 .any (fun w args=>(Rows.simplexBoundSpec.pre enc Tryz.prog Tryz.f5 [] false w args∧laidMet Tryz.prog jr w)∧sizedMet enc Tryz.prog Tryz.f5 (OpenSpec.ofChange Rows.simplexBoundSpec) false w args)
   (Rows.simplexBoundSpec.post enc Tryz.prog Tryz.f5 false true false false):=by
 refine returnsInHanded_of_change_and (C:=Tryz.checked) (X:=fun w _=>laidMet Tryz.prog jr w) (fun _ _ _ hh h=>h.of_heap hh) own started (by kernel_rfl) Tryz.func5
  (ChangeSpec.witness_at (enc:=enc) (C:=Tryz.checked) (os:=os) (X:=fun w _=>laidMet Tryz.prog jr w) false (oD os) #[.agg #[.slice none 0 0,.slice none 0 0,.slice none 0 0,.slice none 0 0],.slice none 0 0,.slice none 0 0,.slice none 0 0] 8 rfl (by kernel_rfl) (by kernel_rfl) (by kernel_rfl) (by kernel_rfl) (by kernel_rfl) (pn os _)) ?_
 intro W base args ds gs before hval0 hW _ _ hL _
 have hval:∀(j:Nat) t v,(Tryz.f5).params[j]?=some t→args[j]?=some v→Value.okWide Tryz.prog W .any base t v:=hval0
 have hW':=hW
 obtain ⟨p,q,hA0,hV0,rfl,hfz,hnd⟩:=hW
 have hA:DataW.TrodAll enc Tryz.prog W 0 (fun _=>true) true (Tryz.f5).params.toList args.toList ds p:=hA0
 have hV:DataW.TrodVars enc Tryz.prog W (fun _=>true) [] gs q:=hV0
 rw [Tryz.params5] at hA hval
 obtain ⟨v0,v1,v2,v3,d0,d1,d2,d3,p0,p1,p2,p3,rfl,rfl,rfl,h0,h1,h2,h3⟩:=pS hA
 obtain ⟨rfl,rfl⟩:gs=[]∧q=[]:=by
  cases gs with
  |nil=>exact ⟨rfl,hV⟩
  |cons g r=>exact absurd hV (by intro h;cases h)
 have e1:Rows.simplexBoundSpec.fn H ([d0,d1,d2,d3]++[])={results:=[.lit (.bool true)],args:=[d0,d1,d2,d3]}:=by simp [Rows.simplexBoundSpec]
 have hlt:∀x∈p0++(p1++(p2++p3)),x.block<W.heap.size:=fun x hx=>hW'.lt x (by simpa using hx)
 have hagg:∃cs,v0=.agg cs:=by
  have h1:=hval 0 _ v0 rfl rfl
  unfold Value.okWide at h1
  split at h1
  ·obtain ⟨cs,h2,_⟩:=h1;exact ⟨cs,h2⟩
  ·obtain ⟨cs,h2,_⟩:=h1;exact ⟨cs,h2⟩
  rename_i g1 g2
  have:=p_lp
  unfold parts at this
  split at this
  ·rename_i fs hfs
   exact absurd hfs (g1 fs)
  cases this
 refine (jS (W:=W) 5 [v0,v1,v2,v3] 15 fun n h20 hWn hbd=>?_).mono fun e W' ⟨he,hb⟩=>?_
 ·obtain ⟨ao,lo,co,ar,lr,cr,aw,lw,cw,au,lu,cu,p,e0,io,ir,iw,iu⟩:=zav hWn hagg h0 (hbd _ (by simp))
  obtain ⟨f1,h1⟩:=h1
  obtain ⟨f2,h2⟩:=h2
  obtain ⟨f3,h3⟩:=h3
  have hb1:bd (up nm v1)≤3*n:=hbd _ (by simp)
  have hb2:bd (up nm v2)≤3*n:=hbd _ (by simp)
  have hb3:bd (up nm v3)≤3*n:=hbd _ (by simp)
  have hs:∀{v:Value} {f:Nat} {d:DataW H} {p:List MemPlace},DataW.trod enc Tryz.prog W 0 (fun _=>true) true f 22 v.cells.toList=some (d,p)→Value.okWide Tryz.prog W .any base 22 v→bd (up nm v)≤3*n→∃a l k S,up nm v=.slice a l k∧Sl (hv (wH W)) n 1 (.slice a l k) (strs S):=by
   intro v f d p ht hok hb
   have hv1:v.cells.toList=[v]:=by
    cases v<;>try rfl
    all_goals (unfold Value.okWide at hok;rw [Tryz.underlying22] at hok;simp [Cell.okWide,Cell.ok,Tryz.underlying22] at hok)
   rw [hv1] at ht
   obtain ⟨S,s1,_⟩:=vy hWn Tryz.underlying22 ne jV ht hb
   obtain ⟨a,l,k,e⟩:=s1.sh
   rw [e] at s1
   exact ⟨a,l,k,S,e,s1⟩
  obtain ⟨ax,lx,cx,S,ex,ix⟩:=hs h1 (hval 1 _ v1 rfl rfl) hb1
  obtain ⟨ay,ly,cy,R,ey,iy⟩:=hs h2 (hval 2 _ v2 rfl rfl) hb2
  obtain ⟨az,lz,cz,C,ez,iz⟩:=hs h3 (hval 3 _ v3 rfl rfl) hb3
  show VF _ _ [up nm v0,up nm v1,up nm v2,up nm v3] _ _ _
  rw [e0,ex,ey,ez]
  exact simplexBound_ok 0 ⟨eC hL,h20⟩ io ir iw iu ix iy iz
 subst he
 refine ⟨_,rfl,_,_,_,[],p0++(p1++(p2++p3)),[],hW',?_,?_,?_,hb.frame _,fun h=>by cases h⟩
 ·rw [e1];exact trodAll_mk1 (shut_bool Tryz.underlying4 true)
 ·rw [e1]
  have hr0:Tryz.prog.readableRec 25=true:=by kernel_rfl
  have ht0:25<Tryz.prog.types.size:=of_decide_eq_true (by kernel_rfl)
  have hr1:Tryz.prog.readableRec 22=true:=by kernel_rfl
  have ht1:22<Tryz.prog.types.size:=of_decide_eq_true (by kernel_rfl)
  exact ⟨p0,_,Below.trod po hr0 ht0 h0 hb fun x hx=>hlt x (by simp [hx]),trodAll_mk3 (Below.trod po hr1 ht1 h1 hb fun x hx=>hlt x (by simp [hx])) (Below.trod po hr1 ht1 h2 hb fun x hx=>hlt x (by simp [hx])) (Below.trod po hr1 ht1 h3 hb fun x hx=>hlt x (by simp [hx])),rfl⟩
 rw [e1];rfl
theorem simplexBound_holds:Rows.SimplexBoundSaid:=
 OpenClaim.holds_of_wide 5 Tryz.f5 rfl rfl rfl rfl rfl rfl rfl ⟨rfl,rfl,rfl,rfl,rfl⟩ rfl rfl rfl rfl rfl (by kernel_rfl) Tryz.func5 simplexBound_closed
  (of_decide_eq_true (by kernel_rfl)) (by unfold Func.isWrapper;rw [if_neg (of_decide_eq_false (by kernel_rfl))];exact ⟨rfl,rfl⟩)
  (fun os started H enc _=>simplexBound_lifted os started H enc)
theorem simplexBound_card:Rows.SimplexBoundCardSaid:=
 Claim7.holds_tied_plain_at .later [] [.data,.data,.data] true (true, "9e5c0f00c4bd6ea61ae402f0a64ff71be72402011ce920bfc6b7613a822b02c4") false
  simplexBound_holds (fun _ h=>by cases h) (by kernel_rfl) (fun _ h=>by cases h) simplexBound_row_tie rfl ⟨rfl,rfl⟩ (by kernel_rfl) rfl
  (fun f fn hf hfn=>by
   obtain rfl:f=5:=Option.some.inj ((show Tryz.prog.funcNamed Rows.simplexBoundRow.func=some 5 by kernel_rfl).symm.trans hf) |>.symm
   obtain rfl:fn=Tryz.f5:=(Option.some.inj (Tryz.func5.symm.trans hfn)).symm
   exact ⟨by kernel_rfl,fun j t ht=>by
    rw [Tryz.params5] at ht
    have h3:t=25∨t=22:=by
     rcases j with _|_|_|_|j
     ·left;simpa using ht.symm
     ·right;simpa using ht.symm
     ·right;simpa using ht.symm
     ·right;simpa using ht.symm
     simp at ht
    rcases h3 with rfl|rfl
    ·exact (show Tryz.prog.wantsStandIn 25=false by kernel_rfl)
    ·exact (show Tryz.prog.wantsStandIn 22=false by kernel_rfl)⟩)
  (by kernel_rfl)
end Go.Proofs.YtlmbghgklnmlkaaGreatDoor
