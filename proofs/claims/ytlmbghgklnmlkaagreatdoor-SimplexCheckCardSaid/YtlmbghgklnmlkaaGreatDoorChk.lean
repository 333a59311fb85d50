/-
 For every input the statement SimplexCheck returns true and leaves its arguments as they were. Conditions: the listed package-level variables hold what the program's text lays (tied).
-/
import Derived.Test.YtlmbghgklnmlkaaGreatDoorChkG
set_option maxHeartbeats 8000000
set_option linter.unusedVariables false
set_option linter.unusedSimpArgs false
namespace Go.Proofs.YtlmbghgklnmlkaaGreatDoor
open Go Go.GL Go.ChangeShapes Go.WideShapes Go.RowKit
set_option maxRecDepth 100000
variable {H:Type}{base:Nat}{t:TypeId}{v:Value}
theorem oN {enc:TypeId×Value→H}{P:Program}{w:World}{spare:Nat→Bool}{held:Bool}{t1 t2:TypeId}{args:Array Value}{ds:List (DataW H)}{ps:List MemPlace}(h:DataW.TrodAll enc P w base spare held [t,t1,t2] args.toList ds ps):
  ∃v v1 v2 d d1 d2 p p1 p2,args=#[v,v1,v2]∧ds=[d,d1,d2]∧ps=p++(p1++p2)∧DataW.Trod enc P w base spare held t v d p∧DataW.Trod enc P w base spare held t1 v1 d1 p1∧DataW.Trod enc P w base spare held t2 v2 d2 p2:=by
 obtain ⟨v,vs,d,ds0,p,q0,hargs,rfl,rfl,hd,r0⟩:=trodAll_cons h
 obtain ⟨v1,vs1,d1,ds1,p1,q1,rfl,rfl,rfl,hd1,r1⟩:=trodAll_cons r0
 obtain ⟨v2,vs2,d2,ds2,p2,q2,rfl,rfl,rfl,hd2,r2⟩:=trodAll_cons r1
 obtain ⟨rfl,rfl,rfl⟩:=trodAll_nil r2
 exact ⟨v,v1,v2,d,d1,d2,p,p1,p2,by cases args;simp_all,rfl,by simp,hd,hd1,hd2⟩
theorem zdp {W:World}{L:List (TypeId×Nat)}(hp:parts t=some L)(h1:Value.okWide Tryz.prog W .any base t v):∃cs,v=.agg cs:=by
 unfold Value.okWide at h1
 split at h1
 ·obtain ⟨cs,h2,_⟩:=h1;exact ⟨cs,h2⟩
 ·obtain ⟨cs,h2,_⟩:=h1;exact ⟨cs,h2⟩
 rename_i g1 g2
 unfold parts at hp
 split at hp
 ·rename_i fs hfs
  exact absurd hfs (g1 fs)
 cases hp
theorem simplexCheck_lifted (os:Os)(started:os.Started)(H:Type)(enc:TypeId×Value→H):
  ReturnsInHanded {} Tryz.checked os 4 .any (fun w args=>(Rows.simplexCheckSpec.pre enc Tryz.prog Tryz.f4 [] false w args∧laidMet Tryz.prog gS w)∧sizedMet enc Tryz.prog Tryz.f4 (OpenSpec.ofChange Rows.simplexCheckSpec) false w args)
   (Rows.simplexCheckSpec.post enc Tryz.prog Tryz.f4 false true false false):=by
 refine returnsInHanded_of_change_and (C:=Tryz.checked) (X:=fun w _=>laidMet Tryz.prog gS w) (fun _ _ _ hh h=>h.of_heap hh) own started (by kernel_rfl) Tryz.func4
  (ChangeSpec.witness_at (enc:=enc) (C:=Tryz.checked) (os:=os) (X:=fun w _=>laidMet Tryz.prog gS w) false (mH os) #[.agg #[.slice none 0 0,.slice none 0 0,.slice none 0 0,.slice none 0 0],.agg #[.int .i64 0,.string ⟨⟨[]⟩⟩,.slice none 0 0,.slice none 0 0,.slice none 0 0,.slice none 0 0],.bool false] 8 rfl (by kernel_rfl) (by kernel_rfl) (by kernel_rfl) (by kernel_rfl) (by kernel_rfl) (ng os _)) ?_
 intro W base args ds gs before hval0 hW _ _ hL _
 have hval:∀(j:Nat) t v,(Tryz.f4).params[j]?=some t→args[j]?=some v→Value.okWide Tryz.prog W .any base t v:=hval0
 have hW':=hW
 obtain ⟨p,q,hA0,hV0,rfl,hfz,hnd⟩:=hW
 have hA:DataW.TrodAll enc Tryz.prog W 0 (fun _=>true) true (Tryz.f4).params.toList args.toList ds p:=hA0
 have hV:DataW.TrodVars enc Tryz.prog W (fun _=>true) [] gs q:=hV0
 rw [Tryz.params4] at hA hval
 obtain ⟨v0,v1,v2,d0,d1,d2,p0,p1,p2,rfl,rfl,rfl,h0,h1,h2⟩:=oN hA
 obtain ⟨rfl,rfl⟩:gs=[]∧q=[]:=by
  cases gs with
  |nil=>exact ⟨rfl,hV⟩
  |cons g r=>exact absurd hV (by intro h;cases h)
 have e1:Rows.simplexCheckSpec.fn H ([d0,d1,d2]++[])={results:=[.lit (.bool true)],args:=[d0,d1,d2]}:=by simp [Rows.simplexCheckSpec]
 have hlt:∀x∈p0++(p1++p2),x.block<W.heap.size:=fun x hx=>hW'.lt x (by simpa using hx)
 obtain ⟨raw,rfl,_⟩:=open_bool Tryz.underlying4 (hval 2 _ v2 rfl rfl) h2
 have hagg:=zdp p_lp (hval 0 _ v0 rfl rfl)
 have hagr:=zdp zgx (hval 1 _ v1 rfl rfl)
 refine (fF (W:=W) 4 [v0,v1,.bool raw] 16 fun n h20 hWn hbd=>?_).mono fun e W' ⟨he,hb⟩=>?_
 ·obtain ⟨ao,lo,co,ar,lr,cr,aw,lw,cw,au,lu,cu,p,e0,io,ir,iw,iu⟩:=zez hWn hagg h0 (hbd _ (by simp))
  obtain ⟨o,V,ax,lx,cx,ay,ly,cy,az,lz,cz,am,lm,cm,X,Y,R,C,e1,ix,iy,iz,im⟩:=zaz hWn hagr h1 (hbd _ (by simp))
  show VF _ _ [up nm v0,up nm v1,.bool raw] _ _ _
  rw [e0,e1]
  exact simplexCheck_ok 0 ⟨aZ hL,h20⟩ io ir iw iu ix iy iz im raw
 subst he
 refine ⟨_,rfl,_,_,_,[],p0++(p1++p2),[],hW',?_,?_,?_,hb.frame _,fun h=>by cases h⟩
 ·rw [e1];exact trodAll_mk1 (shut_bool Tryz.underlying4 true)
 ·rw [e1]
  have hr0:Tryz.prog.readableRec 25=true:=by kernel_rfl
  have ht0:25<Tryz.prog.types.size:=of_decide_eq_true (by kernel_rfl)
  have hr1:Tryz.prog.readableRec 40=true:=by kernel_rfl
  have ht1:40<Tryz.prog.types.size:=of_decide_eq_true (by kernel_rfl)
  have hr4:Tryz.prog.readableRec 4=true:=by kernel_rfl
  have ht4:4<Tryz.prog.types.size:=of_decide_eq_true (by kernel_rfl)
  exact ⟨p0,_,Below.trod kD hr0 ht0 h0 hb fun x hx=>hlt x (by simp [hx]),trodAll_mk2 (Below.trod kD hr1 ht1 h1 hb fun x hx=>hlt x (by simp [hx])) (Below.trod kD hr4 ht4 h2 hb fun x hx=>hlt x (by simp [hx])),rfl⟩
 rw [e1];rfl
theorem simplexCheck_holds:Rows.SimplexCheckSaid:=
 OpenClaim.holds_of_wide 4 Tryz.f4 rfl rfl rfl rfl rfl rfl rfl ⟨rfl,rfl,rfl,rfl,rfl⟩ rfl rfl rfl rfl rfl (by kernel_rfl) Tryz.func4 simplexCheck_closed
  (of_decide_eq_true (by kernel_rfl)) (by unfold Func.isWrapper;rw [if_neg (of_decide_eq_false (by kernel_rfl))];exact ⟨rfl,rfl⟩)
  (fun os started H enc _=>simplexCheck_lifted os started H enc)
theorem simplexCheck_card:Rows.SimplexCheckCardSaid:=
 Claim7.holds_tied_plain_at .later [] [.data,.data,.data] true (true, "9e5c0f00c4bd6ea61ae402f0a64ff71be72402011ce920bfc6b7613a822b02c4") false
  simplexCheck_holds (fun _ h=>by cases h) (by kernel_rfl) (fun _ h=>by cases h) simplexCheck_row_tie rfl ⟨rfl,rfl⟩ (by kernel_rfl) rfl
  (fun f fn hf hfn=>by
   obtain rfl:f=4:=Option.some.inj ((show Tryz.prog.funcNamed Rows.simplexCheckRow.func=some 4 by kernel_rfl).symm.trans hf) |>.symm
   obtain rfl:fn=Tryz.f4:=(Option.some.inj (Tryz.func4.symm.trans hfn)).symm
   exact ⟨by kernel_rfl,fun j t ht=>by
    rw [Tryz.params4] at ht
    have h3:t=25∨t=40∨t=4:=by
     rcases j with _|_|_|j
     ·left;simpa using ht.symm
     ·right;left;simpa using ht.symm
     ·right;right;simpa using ht.symm
     simp at ht
    rcases h3 with rfl|rfl|rfl
    ·exact (show Tryz.prog.wantsStandIn 25=false by kernel_rfl)
    ·exact (show Tryz.prog.wantsStandIn 40=false by kernel_rfl)
    ·exact (show Tryz.prog.wantsStandIn 4=false by kernel_rfl)⟩)
  (by kernel_rfl)
end Go.Proofs.YtlmbghgklnmlkaaGreatDoor
