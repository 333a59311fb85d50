/-
 For every input the statement SdpSlacks returns true and leaves its arguments as they were. Conditions: the listed package-level variables hold what the program's text lays (tied).
-/
import Derived.Test.YtfajmfoofmienaaGreatDoorSlkG
open Go.ChangeSpec renaming witness_at→al7
open Go.OpenSpec renaming ofChange→KJ
open Go.Proofs.Tryz renaming checked→KI,f3→Js,func3→af4,params3→aj4,prog→D6,underlying23→KK
open Go.Value renaming slice→Y
open Option.some renaming inj→ET
set_option maxHeartbeats 8000000
set_option linter.unusedVariables false
set_option linter.unusedSimpArgs false
namespace Go.Proofs.YtfajmfoofmienaaGreatDoor
open Go Go.GL Go.ChangeShapes Go.WideShapes Go.RowKit
set_option maxRecDepth 100000
theorem Ro:D6.underlying 9=some .string:=by kernel_rfl
theorem Rp:D6.cellsOf 9=1:=by kernel_rfl
theorem oV(os:Os)(i:os.Started)(H:Type)(enc:TypeId×Value→H):
  ReturnsInHanded {} KI os 3 .any (fun w b=>(Rows.sdpSlacksSpec.pre enc D6 Js [] false w b∧laidMet D6 MG w)∧sizedMet enc D6 Js (KJ Rows.sdpSlacksSpec) false w b)
   (Rows.sdpSlacksSpec.post enc D6 Js false true false false):=by
 refine returnsInHanded_of_change_and (C:=KI) (X:=fun w _=>laidMet D6 MG w) (fun _ _ _ hh h=>h.of_heap hh) own i (by kernel_rfl) af4
  (al7 (enc:=enc) (C:=KI) (os:=os) (X:=fun w _=>laidMet D6 MG w) false (gU os) #[Y none 0 0,Y none 0 0] 8 rfl (by kernel_rfl) (by kernel_rfl) (by kernel_rfl) (by kernel_rfl) (by kernel_rfl) (jZ os _)) ?_
 intro W F b ds I L s Z0 _ _ hL _;have d:∀(j:Nat) t v,(Js).params[j]?=some t→b[j]?=some v→Value.okWide D6 W .any F t v:=s;have A:=Z0;obtain⟨p,q,Z4,Z3,rfl,a8,a9⟩:=Z0;have T:DataW.TrodAll enc D6 W 0 (fun _=>true) true (Js).params.toList b.toList ds p:=Z4;have V:DataW.TrodVars enc D6 W (fun _=>true) [] I q:=Z3;rw[aj4]at T d;obtain⟨v0,u,M,N,p0,p1,rfl,rfl,rfl,P,m⟩:=trodAll_two T;obtain⟨rfl,rfl⟩:I=[]∧q=[]:=by
  cases I with
  |nil=>exact⟨rfl,V⟩
  |cons g r=>exact oU V (by intro h;cases h)
 have G:Rows.sdpSlacksSpec.fn H ([M,N]++[])={results:=[.lit (.bool true)],args:=[M,N]}:=by simp[Rows.sdpSlacksSpec]
 have D:∀x∈p0++p1,x.block<W.heap.size:=fun x o=>A.lt x (by simpa using o);refine(zc3 (W:=W) 3 [v0,u] 19 fun n R B a1=>?_).mono fun e W'⟨he,J⟩=>?_
 .obtain⟨a0,l0,c0,L0,a4,rfl,Z1,s0⟩:=zjo Tryz.underlying22 (by kernel_rfl) (by kernel_rfl) (d 0 _ v0 rfl rfl) P B.sz;have a7:=zhf KK (d 1 _ u rfl rfl);obtain⟨f1,m⟩:=m;rw[a7]at m;obtain⟨S,K,_⟩:=zd3 B KK Ro Rp m (a1 _ cA);obtain⟨aY,lY,cY,y⟩:∃a l c,up nm u=Y a l c:=by
   obtain⟨a,l,c,h,_⟩:=K.len;exact⟨a,l,c,h⟩
  rw[Z1]at s0;rw[y]at K;show VF _ _ [up nm _,up nm u] _ _ _;rw[Z1,y];refine gi 0 (zh1 hL) R (fun ad f=>?_) s0 K;cases a0 with
  |none=>cases f
  |some ad0=>injection f with f;rw[←f];exact a4 ad0 rfl
 subst he;refine⟨_,rfl,_,_,_,[],p0++p1,[],A,?_,?_,?_,J.frame _,fun h=>by cases h⟩
 .rw[G];exact trodAll_mk1 (shut_bool Tryz.underlying4 true)
 .rw[G];have a2:D6.readableRec 22=true:=by kernel_rfl
  have a5:22<D6.types.size:=of_decide_eq_true (by kernel_rfl);have a3:D6.readableRec 23=true:=by kernel_rfl
  have a6:23<D6.types.size:=of_decide_eq_true (by kernel_rfl);exact trodAll_mk2 (Below.trod Rn a2 a5 P J fun x o=>D x (by simp[o])) (Below.trod Rn a3 a6 m J fun x o=>D x (by simp[o]))
 rw[G];rfl
theorem my:Rows.SdpSlacksSaid:=
 OpenClaim.holds_of_wide 3 Js rfl rfl rfl rfl rfl rfl rfl R5 rfl rfl rfl rfl rfl (by kernel_rfl) af4 oW
  (of_decide_eq_true (by kernel_rfl)) (by unfold Func.isWrapper;rw[CT (of_decide_eq_false (by kernel_rfl))];exact⟨rfl,rfl⟩)
  (fun c a H b _=>oV c a H b)
theorem sdpSlacks_card:Rows.SdpSlacksCardSaid:=
 Claim7.holds_tied_plain_at .later [] [.data,.data,.data] true (true, "cb054623145d01328a651aa8a1ad451e051f5534ce1add1ceff17b37815760bd") false
  my (fun _ h=>by cases h) (by kernel_rfl) (fun _ h=>by cases h) sdpSlacks_row_tie rfl ⟨rfl,rfl⟩ (by kernel_rfl) rfl
  (fun f fn hf hfn=>by
   obtain rfl:f=3:=ET ((show D6.funcNamed Rows.sdpSlacksRow.func=some 3 by kernel_rfl).symm.trans hf) |>.symm;obtain rfl:fn=Js:=(ET (af4.symm.trans hfn)).symm;exact⟨by kernel_rfl,fun j t ht=>by
    rw[aj4]at ht;have h3:t=22∨t=23:=by
     rcases j with _|_|j
     .left;simpa using ht.symm
     .right;simpa using ht.symm
     simp at ht
    rcases h3 with rfl|rfl
    .exact(show D6.wantsStandIn 22=false by kernel_rfl)
    .exact(show D6.wantsStandIn 23=false by kernel_rfl)⟩)
  (by kernel_rfl)
end Go.Proofs.YtfajmfoofmienaaGreatDoor
