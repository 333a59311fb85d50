/-
 For every input the statement SimplexOptimum returns true and leaves its arguments as they were. Conditions: the listed package-level variables hold what the program's text lays (tied).
-/
import Derived.Test.YtepkmadmigkgmaaGreatDoorOptG
open Go.DataW renaming Trod→Gl
open Go.IntKind renaming i64→G9
open Go.OpenSpec renaming ofChange→GF
open Go.Proofs.Tryz renaming checked→GD,f5→Ff,func5→Hz,prog→sP,underlying22→Fg
open Go.Value renaming int→gZ,okWide→Fz,slice→gS
open Option.some renaming inj→Bx
set_option maxHeartbeats 8000000
set_option linter.unusedVariables false
set_option linter.unusedSimpArgs false
namespace Go.Proofs.YtepkmadmigkgmaaGreatDoor
open Go Go.GL Go.ChangeShapes Go.WideShapes Go.RowKit
set_option maxRecDepth 100000
theorem lI {H:Type}{enc:TypeId×Value→H}{P:Program}{w:World}{b:Nat}{a:Nat→Bool}{c:Bool}{t y A:TypeId}{e:Array Value}{o:List (DataW H)}{u:List MemPlace}(h:DataW.TrodAll enc P w b a c [t,y,A] e.toList o u):
  ∃v l m d f g p i j,e=#[v,l,m]∧o=[d,f,g]∧u=p++(i++j)∧Gl enc P w b a c t v d p∧Gl enc P w b a c y l f i∧Gl enc P w b a c A m g j:=by
 obtain ⟨v,S,d,I,p,N,B,rfl,rfl,C,D⟩:=trodAll_cons h;obtain ⟨l,L,f,J,i,O,rfl,rfl,rfl,q,F⟩:=trodAll_cons D;obtain ⟨m,M,g,K,j,R,rfl,rfl,rfl,s,G⟩:=trodAll_cons F;obtain ⟨rfl,rfl,rfl⟩:=trodAll_nil G;exact ⟨v,l,m,d,f,g,p,i,j,by cases e;simp_all,rfl,gN,C,q,s⟩
theorem simplexOptimum_lifted (os:Os)(u:os.Started)(H:Type)(enc:TypeId×Value→H):
  ReturnsInHanded {} GD os 5 .any (fun w b=>(Rows.simplexOptimumSpec.pre enc sP Ff [] false w b∧laidMet sP zbd w)∧sizedMet enc sP Ff (GF Rows.simplexOptimumSpec) false w b)
   (Rows.simplexOptimumSpec.post enc sP Ff false true false false):=by
 refine returnsInHanded_of_change_and (C:=GD) (X:=fun w _=>laidMet sP zbd w) (fun _ _ _ hh h=>h.of_heap hh) own u (by kernel_rfl) Hz
  (ChangeSpec.witness_at (enc:=enc) (C:=GD) (os:=os) (X:=fun w _=>laidMet sP zbd w) false (iH os) #[.agg #[gS none 0 0,gS none 0 0,gS none 0 0,gS none 0 0],gS none 0 0,gZ .i64 0] 8 rfl (by kernel_rfl) (by kernel_rfl) (by kernel_rfl) (by kernel_rfl) (by kernel_rfl) (kx os _)) ?_
 intro W y b ds O T G hW _ _ hL _;have i:∀(j:Nat) t v,(Ff).params[j]?=some t→b[j]?=some v→Fz sP W .any y t v:=G;have K:=hW;obtain ⟨p,q,a1,a2,rfl,ac,ad⟩:=hW;have hA:DataW.TrodAll enc sP W 0 (fun _=>true) true (Ff).params.toList b.toList ds p:=a1;have hV:DataW.TrodVars enc sP W (fun _=>true) [] O q:=a2;rw [Tryz.params5] at hA i;obtain ⟨I,J,v2,U,V,Y,p0,p1,p2,rfl,rfl,rfl,Z,c,o⟩:=lI hA;obtain ⟨rfl,rfl⟩:O=[]∧q=[]:=by
  cases O with
  |nil=>exact ⟨rfl,hV⟩
  |cons g r=>exact eN hV (by intro h;cases h)
 have N:Rows.simplexOptimumSpec.fn H ([U,V,Y]++[])={results:=[.lit (.bool true)],args:=[U,V,Y]}:=by simp [Rows.simplexOptimumSpec]
 have B:∀x∈p0++(p1++p2),x.block<W.heap.size:=fun x m=>K.lt x (by simpa using m);have P:∃A,I=.agg A:=by
  have c:=i 0 _ I rfl rfl;unfold Fz at c;split at c
  ·obtain ⟨A,o,_⟩:=c;exact ⟨A,o⟩
  ·obtain ⟨A,o,_⟩:=c;exact ⟨A,o⟩
  rename_i g1 g2;have:=p_lp;unfold parts at this;split at this
  ·rename_i fs hfs;exact eN hfs (g1 fs)
  cases this
 obtain ⟨F,rfl,_,_,ab⟩:=open_int (k:=.i64) Tryz.underlying3 (i 2 _ v2 rfl rfl) o;have m: -9223372036854775808≤F∧F<9223372036854775808:=by
  have h3:G9.min≤F∧F≤G9.max:=by simpa [Lit.wf,IntKind.has] using ab
  obtain ⟨h4,h5⟩:=h3;exact ⟨h4,Int.lt_of_le_of_lt h5 zd⟩
 refine (zb3 (W:=W) 5 [I,J,gZ .i64 F] 17 fun n a0 L M=>?_).mono fun e W' ⟨he,s⟩=>?_
 ·obtain ⟨ao,lo,co,ar,lr,cr,aw,lw,cw,au,lu,cu,p,e0,io,ir,iw,iu⟩:=zm6 L P Z (M _ gN);obtain ⟨f1,c⟩:=c;have a3:bd (up nm J)≤3*n:=M _ gN;have hs:∀{v:Value} {f:Nat} {d:DataW H} {p:List MemPlace},DataW.trod enc sP W 0 (fun _=>true) true f 22 v.cells.toList=some (d,p)→Fz sP W .any y 22 v→bd (up nm v)≤3*n→∃a l k S,up nm v=gS a l k∧Sl (hv (wH W)) n 1 (gS a l k) (strs S):=by
   intro v f d p ht D s;have aa:v.cells.toList=[v]:=by
    cases v<;>try rfl
    all_goals (unfold Fz at D;rw [Fg] at D;simp [Cell.okWide,Cell.ok,Fg] at D)
   rw [aa] at ht;obtain ⟨S,R,_⟩:=uL L Fg gV zb6 ht s;obtain ⟨a,l,k,e⟩:=R.sh;rw [e] at R;exact ⟨a,l,k,S,e,R⟩
  obtain ⟨ax,lx,cx,S,ex,ix⟩:=hs c (i 1 _ J rfl rfl) a3;show VF _ _ [up nm I,up nm J,_] _ _ _;rw [e0,ex];exact simplexOptimum_ok 0 ⟨zgv hL,a0⟩ io ir iw iu ix m
 subst he;refine ⟨_,rfl,_,_,_,[],p0++(p1++p2),[],K,?_,?_,?_,s.frame _,fun h=>by cases h⟩
 ·rw [N];exact trodAll_mk1 (shut_bool Tryz.underlying4 true)
 ·rw [N];have a4:sP.readableRec 25=true:=by kernel_rfl
  have a7:25<sP.types.size:=of_decide_eq_true (by kernel_rfl);have a5:sP.readableRec 22=true:=by kernel_rfl
  have a8:22<sP.types.size:=of_decide_eq_true (by kernel_rfl);have a6:sP.readableRec 3=true:=by kernel_rfl
  have a9:3<sP.types.size:=of_decide_eq_true (by kernel_rfl);exact trodAll_mk3 (Below.trod ei a4 a7 Z s fun x m=>B x (by simp [m])) (Below.trod ei a5 a8 c s fun x m=>B x (by simp [m])) (Below.trod ei a6 a9 o s fun x m=>B x (by simp [m]))
 rw [N];rfl
theorem simplexOptimum_holds:Rows.SimplexOptimumSaid:=
 OpenClaim.holds_of_wide 5 Ff rfl rfl rfl rfl rfl rfl rfl ⟨rfl,rfl,rfl,rfl,rfl⟩ rfl rfl rfl rfl rfl (by kernel_rfl) Hz simplexOptimum_closed
  (of_decide_eq_true (by kernel_rfl)) (by unfold Func.isWrapper;rw [eP (of_decide_eq_false (by kernel_rfl))];exact ⟨rfl,rfl⟩)
  (fun c a H b _=>simplexOptimum_lifted c a H b)
theorem simplexOptimum_card:Rows.SimplexOptimumCardSaid:=
 Claim7.holds_tied_plain_at .later [] [.data,.data,.data] true (true, "50a65908a0e96ed155159c39f2adfa1a4b90e39f6172ce6f514ea1a64648c929") false
  simplexOptimum_holds (fun _ h=>by cases h) (by kernel_rfl) (fun _ h=>by cases h) simplexOptimum_row_tie rfl ⟨rfl,rfl⟩ (by kernel_rfl) rfl
  (fun f fn hf hfn=>by
   obtain rfl:f=5:=Bx ((show sP.funcNamed Rows.simplexOptimumRow.func=some 5 by kernel_rfl).symm.trans hf) |>.symm;obtain rfl:fn=Ff:=(Bx (Hz.symm.trans hfn)).symm;exact ⟨by kernel_rfl,fun j t ht=>by
    rw [Tryz.params5] at ht;have h3:t=25∨t=22∨t=3:=by
     rcases j with _|_|_|j
     ·left;simpa using ht.symm
     ·right;left;simpa using ht.symm
     ·right;right;simpa using ht.symm
     simp at ht
    rcases h3 with rfl|rfl|rfl
    ·exact (show sP.wantsStandIn 25=false by kernel_rfl)
    ·exact (show sP.wantsStandIn 22=false by kernel_rfl)
    ·exact (show sP.wantsStandIn 3=false by kernel_rfl)⟩)
  (by kernel_rfl)
end Go.Proofs.YtepkmadmigkgmaaGreatDoor
