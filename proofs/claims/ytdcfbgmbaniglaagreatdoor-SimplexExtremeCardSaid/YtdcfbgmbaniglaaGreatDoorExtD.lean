import Derived.KernelRfl
import Derived.Test.YtdcfbgmbaniglaaGreatDoorExtC
set_option maxHeartbeats 8000000
set_option linter.unusedVariables false
set_option linter.unusedSimpArgs false
namespace Go.Proofs.YtdcfbgmbaniglaaGreatDoor
open Go Go.GL
variable {h h':HF}{c1 c2 l l1 l2 len n P U V b bytes c' j k m n0 size sz bt off lo N d top:Nat}{a a1 a2:Option Addr}{A C L S Z X:List Nat}{s:List UInt8}{f:FuncId}{fn:Func}{body:Code}{args c cs:List Value}{e sT xT ty:TypeId}{x hi:Operand}{v z:Value}{ik ik':IntKind}
section
variable {cap:Nat}
theorem Sl.zero {c:Nat}(s:Sl h n 1 (.slice a l c) (u64s A))(ha:a=none):A=[]:=by
 have h1:=s.lenW
 by_cases h0:l=0
 ·exact List.length_eq_zero_iff.1 zo
 obtain ⟨b,off,x,cs,e,_⟩:=s.inv h0
 rw [ha] at e
 cases e
theorem xR (k:Nat)(hs:Sl h n 1 (.slice a len cap) (u64s L))(hl:L.length<1000000000):CF (cal (k+1)) 109 [.slice a len cap] h n fun v h' n' w=>w=[]∧n≤n'∧Ext n h h'∧Sl h' n' 1 v (u64s L)∧(L≠[]→Gro h' n n' 129 1 v L.length (u64s L)):=by
 refine zv (fn:=Tryz.f109) R4 ?_
 have hlen:=hs.lenW
 subst hlen
 refine zN ?_
 repeat refine zR ?_
 refine zN ?_
 repeat refine zR ?_
 cases a with
 |none=>
  have hL:=hs.zero rfl
  subst hL
  refine zN ?_
  rw [ze rfl]
  refine zN ?_
  repeat refine zR ?_
  refine zN ?_
  exact retH _ ⟨rfl,(zi rfl),rfl⟩ ⟨rfl,Nat.le_refl _,Ext.refl _ _,.nil (.inl rfl),fun h=>absurd rfl h⟩
 |some ad=>
  refine zN ?_
  rw [za rfl]
  refine zN ?_
  refine ny (cs:=[]) R5 ?_
  repeat refine zR ?_
  have hs2:=hs.ext (Ext.upd (h:=h) (b:=3*n+2) (x:=some (.row [] 129)) (show 3*n≤3*n+2 by omega)) (Nat.le_succ n)
  by_cases hL:L=[]
  ·subst hL
   refine yK R5 (jl (L:=0) rfl rfl rfl zd (sR hs2) zd) ?_
   repeat refine zR ?_
   refine zN ?_
   exact retH _ ⟨rfl,(zi rfl),rfl⟩ ⟨rfl,Nat.le_succ n,Ext.upd zo,.nil (.inr ⟨_,_,_,rfl,by show 3*n+2<3*(n+1);omega⟩),fun h=>absurd rfl h⟩
  have hL0:L.length≠0:=fun e=>hL (List.length_eq_zero_iff.1 e)
  refine yK R5 (jn rfl rfl rfl zd (sR hs2) zo (zA n) hL0) ?_
  repeat refine zR ?_
  refine zN ?_
  have hg:Gro (upd (upd h (3*n+2) (some (.row [] 129))) (3*(n+1)+1) (some (.row (u64s L) 129))) n (n+1+1) 129 1 (.slice (some ⟨3*(n+1)+1,0,none⟩) L.length L.length) L.length (u64s L):=.at_ (ub (n+1)) zo zo (zg _ _ _) (by rw [zF,Nat.mul_one]) (vh L)
  exact retH _ ⟨rfl,(zi rfl),rfl⟩ ⟨rfl,by show n≤n+1+1;omega,(Ext.upd zo).trans (Ext.upd zo) (Nat.le_succ n),hg.sl,fun _=>hg⟩
theorem pa (k:Nat)(h:HF)(n:Nat)(hs:AllD s)(hl:s.length≤570):CF (cal (k+4)) 121 [.string ⟨⟨s⟩⟩,.slice none 0 0] h n fun v h' n' w=>∃L,ResW n h v h' n' w L∧wv L=dval s∧yO n v:=by
 refine zv (fn:=Tryz.f121) R4 ?_
 refine zN ?_
 repeat refine zR ?_
 refine zN ?_
 repeat refine zR ?_
 refine zN ?_
 refine z8 (α:=Unit) (fun _=>[(0,.string ⟨⟨s⟩⟩),(5,.int .i64 (-1))]) (fun _ h' n' w=>h=h'∧n=n'∧w=[]) (fun _=>0) () ⟨rfl,rfl,trivial⟩ ⟨rfl,rfl,rfl⟩ (by show 0<LL;decide) ?_
 rintro _ t _ _ _ ⟨rfl,rfl,rfl⟩
 refine zN ?_
 repeat refine zR ?_
 refine zN ?_
 rw [za rfl]
 refine zN ?_
 repeat refine zR ?_
 refine zN ?_
 rw [ze rfl]
 refine zN ?_
 refine zM ?_
 refine zw _ R5 (pb k h n hs zo) ?_
 rintro v h1 n1 _ ⟨L,⟨rfl,hn1,hx1,hs1,hN⟩,hv,hf⟩
 obtain ⟨a,l,c,rfl,_⟩:=hs1.len
 repeat refine zR ?_
 refine zN ?_
 exact retH _ ⟨rfl,(zi rfl),rfl⟩ ⟨L,⟨rfl,hn1,hx1,hs1,hN⟩,hv,hf⟩
theorem qZ (k:Nat)(h:HF)(n:Nat)(hs:AllD s)(hl:s.length≤570):CF (cal (k+5)) 87 [.string ⟨⟨s⟩⟩] h n fun v h' n' w=>∃L,ResW n h v h' n' w L∧wv L=dval s∧yO n v:=by
 refine zv (fn:=Tryz.f87) R4 ?_
 refine zN ?_
 repeat refine zR ?_
 refine zN ?_
 repeat refine zR ?_
 refine zN ?_
 refine zM ?_
 refine st_I (ik:=.i64) (a:=(s.length:Int)) R5 ?_
 repeat refine zR ?_
 refine zN ?_
 rw [za rfl]
 refine zN ?_
 refine zM ?_
 refine zM ?_
 refine zw _ R5 (pa k h n hs hl) ?_
 rintro v h1 n1 _ ⟨L,⟨rfl,hn1,hx1,hs1,hN⟩,hv,hf⟩
 obtain ⟨a,l,c,rfl,_⟩:=hs1.len
 repeat refine zR ?_
 refine zN ?_
 exact retH _ ⟨rfl,(zi rfl),rfl⟩ ⟨L,⟨rfl,hn1,hx1,hs1,hN⟩,hv,hf⟩
def NatR (n:Nat)(h:HF)(v:Value)(h':HF)(n':Nat)(w:List Nat)(x:Nat):Prop:=∃a l c L,v=.agg #[.bool false,.slice a l c]∧ResW n h (.slice a l c) h' n' w L∧wv L=x
theorem qn (k:Nat)(h:HF)(n:Nat)(hs:AllD s)(hl:s.length≤570):CF (cal (k+6)) 50 [.string ⟨⟨s⟩⟩] h n fun v h' n' w=>NatR n h v h' n' w (dval s):=by
 refine zv (fn:=Tryz.f50) R4 ?_
 refine zN ?_
 refine yR R5 ?_
 refine zN ?_
 refine zM ?_
 refine zw _ R5 (qZ k _ _ hs hl) ?_
 rintro v h1 n1 _ ⟨L,⟨rfl,hn1,hx1,hs1,hN⟩,hv,hf⟩
 obtain ⟨a,l,c,rfl,_⟩:=hs1.len
 have hb:=(hx1 (3*n+2) zo).trans (zg _ _ _)
 refine zI (v:=.agg #[.bool false,.slice a l c]) R4 rfl ?_
 refine zX [.bool false,.slice a l c] R8 hb rfl (by show 3*n≤3*n+2;omega) ?_
 refine zN ?_
 exact uR R5 (zg _ _ _) rfl ⟨_,_,_,L,rfl,⟨rfl,by show n≤n1;omega,fun b hb=>(zj zo).trans ((hx1 b zo).trans (zj zo)),hs1.off (hf.off zo),hN⟩,hv⟩
theorem sY (c:Nat):wv [c]=c:=by simp [wv,dv]
theorem iM {x c:Nat}:Nat.gcd c (x%c)=Nat.gcd x c:=by rw [Nat.gcd_comm,←Nat.gcd_rec,Nat.gcd_comm]
theorem zb6 (k:Nat)(hG:GK.G h)(hn:20≤n)(hA:Sl h n 1 (.slice a1 l1 c1) (u64s A))(hC:Sl h n 1 (.slice a2 l2 c2) (u64s C))(nA:NW A)(nC:NW C)(hb:A.length<1000000∧C.length<1000000)(h1:A.length≤1∨C.length≤1):
  CF (cal (k+5)) 82 [.slice a1 l1 c1,.slice a2 l2 c2] h n fun v h' n' w=>∃L,ResW n h v h' n' w L∧wv L=Nat.gcd (wv A) (wv C)∧(yO n v∨v=.slice a1 l1 c1∨v=.slice a2 l2 c2):=by
 refine zv (fn:=Tryz.f82) R4 ?_
 refine zN ?_
 repeat refine zR ?_
 refine zN ?_
 refine zM ?_
 refine zM ?_
 refine ya _ R5 (vL (k+1) hA hC nA nC zo) ?_
 rintro _ rfl
 refine pY R6 ?_
 simp only [yE,xE,zK,xz]
 refine yP (α:=(Option Addr×Nat×Nat×List Nat)×(Option Addr×Nat×Nat×List Nat)) (fun z=>[(0,.slice z.1.1 z.1.2.1 z.1.2.2.1),(1,.slice z.2.1 z.2.2.1 z.2.2.2.1)]) (fun z h' n' w=>h=h'∧n=n'∧w=[]∧Sl h n 1 (.slice z.1.1 z.1.2.1 z.1.2.2.1) (u64s z.1.2.2.2)∧Sl h n 1 (.slice z.2.1 z.2.2.1 z.2.2.2.1) (u64s z.2.2.2.2)∧NW z.1.2.2.2∧NW z.2.2.2.2∧z.1.2.2.2.length<1000000∧z.2.2.2.2.length≤1∧Nat.gcd (wv z.1.2.2.2) (wv z.2.2.2.2)=Nat.gcd (wv A) (wv C)∧(Value.slice z.1.1 z.1.2.1 z.1.2.2.1=.slice a1 l1 c1∨Value.slice z.1.1 z.1.2.1 z.1.2.2.1=.slice a2 l2 c2)) ?_ ?_
 ·by_cases hlt:wv A<wv C
  ·rw [ze (by show Value.bool _=_;rw [ul hlt];rfl)]
   refine zN ?_
   repeat refine zR ?_
   refine zN ?_
   refine zS ((a2,l2,c2,C),(a1,l1,c1,A)) ⟨rfl,rfl,trivial⟩ ⟨rfl,rfl,rfl,hC,hA,nC,nA,hb.2,?_,Nat.gcd_comm _ _,.inr rfl⟩
   show A.length≤1
   rcases h1 with h1|h1
   ·exact h1
   rcases Nat.lt_or_ge C.length A.length with hl|hl
   ·have:=nC.len_lt nA hl;omega
   omega
  rw [za (by
   show Value.bool _=_
   rcases Nat.lt_or_ge (wv C) (wv A) with h|h
   ·rw [um h];rfl
   ·rw [show wv A=wv C from zo,qQ];rfl)]
  refine zN ?_
  refine zS ((a1,l1,c1,A),(a2,l2,c2,C)) ⟨rfl,rfl,trivial⟩ ⟨rfl,rfl,rfl,hA,hC,nA,nC,hb.1,?_,rfl,.inl rfl⟩
  show C.length≤1
  rcases h1 with h1|h1
  ·rcases Nat.lt_or_ge A.length C.length with hl|hl
   ·have:=nA.len_lt nC hl;omega
   omega
  exact h1
 rintro ⟨⟨a,l,c,X⟩,⟨a',l',c',Y⟩⟩ t _ _ _ ⟨rfl,rfl,rfl,hX,hY,nX,nY,hXl,hY1,hg,hv⟩
 simp only at hX hY nX nY hXl hY1 hg hv
 rw [←hg]
 clear hg h1 hb hA hC nA nC
 have eX:=hX.lenW
 have eY:=hY.lenW
 subst eX eY
 refine zN ?_
 cases Y with
 |nil=>
  repeat refine zR ?_
  refine zN ?_
  rw [ze rfl]
  refine zN ?_
  repeat refine zR ?_
  refine zN ?_
  exact retH _ ⟨rfl,(zi rfl),rfl⟩ ⟨X,⟨rfl,Nat.le_refl _,Ext.refl _ _,hX,nX⟩,by rw [show wv []=0 from rfl,Nat.gcd_zero_right],.inr hv⟩
 |cons y Y=>
 have hY0:Y=[]:=by simpa using hY1
 subst hY0
 have hy:y<18446744073709551616:=nY.1 y (by simp)
 have hy0:y≠0:=NW.last (l:=[]) nY
 rw [sY]
 rw [show [y].length=1 from rfl] at hY ⊢
 repeat refine zR ?_
 refine zN ?_
 rw [za rfl]
 refine zN ?_
 refine zM ?_
 refine zw _ R5 (xR (k+3) hX zo) ?_
 rintro v5 h2 n2 _ ⟨rfl,hn2,hx2,hs5,_⟩
 obtain ⟨a5,l5,c5,rfl,_⟩:=hs5.len
 refine zM ?_
 refine zw _ R5 (xR (k+3) (L:=[y]) (hY.ext hx2 hn2) (by simp)) ?_
 rintro v6 h3 n3 _ ⟨rfl,hn3,hx3,hs6,hg6⟩
 obtain ⟨b6,rfl,_,hb6,hb6',hr6,_⟩:=(hg6 (by simp)).inv2 (by simp)
 rw [show [y].length=1 from rfl]
 have hx23:Ext n h h3:=hx2.trans hx3 hn2
 have hG3:GK.G h3:=vT hG hx23 hn
 have hs53:=hs5.ext hx3 hn3
 repeat refine zR ?_
 refine zN ?_
 refine z8 (α:=Unit) (fun _=>[(5,.slice a5 l5 c5),(6,.slice (some ⟨b6,0,none⟩) 1 1)]) (fun _ h' n' w=>h3=h'∧n3=n'∧w=[]) (fun _=>0) () ⟨rfl,rfl,trivial⟩ ⟨rfl,rfl,rfl⟩ (by show 0<LL;decide) ?_
 rintro _ t _ _ _ ⟨rfl,rfl,rfl⟩
 refine zN ?_
 repeat refine zR ?_
 refine zN ?_
 rw [za rfl]
 refine zN ?_
 repeat refine zR ?_
 refine zN ?_
 rw [za rfl]
 refine zN ?_
 refine zu [0,1,3,0,0,16,48,120,255,511,1023] rfl ?_
 repeat refine zD ?_
 refine z9 R6 (zU rfl hr6 (v:=.int .u64 (y:Int)) R2) R2 ?_
 repeat refine zD ?_
 refine z9 R6 (zU rfl hr6 (v:=.int .u64 (y:Int)) R2) R2 ?_
 refine ja _ R7 (pB k (l:=X) (d:=y) zo nX.1 ⟨zo,hy⟩ hs53) ?_
 rintro _ rfl
 refine ja _ R7 (pI (k+2) hG3 n3 hy (Nat.lt_trans (Nat.mod_lt _ zo) hy)) ?_
 rintro _ rfl
 refine wV _ R7 (vJ (k+3) h3 n3 (Nat.lt_of_le_of_lt (Nat.gcd_le_left _ zo) hy)) ?_
 rintro v9 h9 n9 _ ⟨L9,⟨rfl,hn9,hx9,hs9,hN9⟩,hv9,hl9,hf9⟩
 obtain ⟨a9,l9,c9,rfl,_⟩:=hs9.len
 refine ⟨xo,hn9,?_⟩
 repeat refine zD ?_
 refine zN ?_
 exact retH _ ⟨rfl,(zi rfl),rfl⟩ ⟨L9,⟨rfl,by show n≤n9;omega,hx23.trans hx9 zo,hs9,hN9⟩,by rw [hv9,iM],.inl (hf9.mono zo)⟩
theorem zb7 (k:Nat)(hG:GK.G h)(hn:20≤n){b1 b2:Bool}(hA:Sl h n 1 (.slice a1 l1 c1) (u64s A))(hC:Sl h n 1 (.slice a2 l2 c2) (u64s C))(nA:NW A)(nC:NW C)(hb:A.length<1000000∧C.length<1000000)(h1:A.length≤1∨C.length≤1):
  CF (cal (k+6)) 41 [.agg #[.bool b1,.slice a1 l1 c1],.agg #[.bool b2,.slice a2 l2 c2]] h n fun v h' n' w=>NatR n h v h' n' w (Nat.gcd (wv A) (wv C)):=by
 refine zv (fn:=Tryz.f41) R4 ?_
 refine zN ?_
 refine nz (cs:=[.bool b1,.slice a1 l1 c1]) R5 ?_
 refine nz (cs:=[.bool b2,.slice a2 l2 c2]) R5 ?_
 refine yR R5 ?_
 generalize hh:upd (upd (upd h (3*n+2) _) (3*(n+1)+2) _) (3*(n+1+1)+2) _=h2
 have hx2:Ext n h h2:=fun b hb=>by rw [←hh,zj zo,zj zo,zj zo]
 have r2:∃e,h2 (3*n+2)=some (.row [.bool b1,.slice a1 l1 c1] e):=⟨_,by rw [←hh,zj zo,zj zo,zg]⟩
 have r3:∃e,h2 (3*(n+1)+2)=some (.row [.bool b2,.slice a2 l2 c2] e):=⟨_,by rw [←hh,zj zo,zg]⟩
 have r4:∃e,h2 (3*(n+1+1)+2)=some (.row [.bool false,.slice none 0 0] e):=⟨_,by rw [←hh,zg];rfl⟩
 obtain ⟨e2,r2⟩:=r2
 obtain ⟨e3,r3⟩:=r3
 obtain ⟨e4,r4⟩:=r4
 clear hh
 refine zN ?_
 repeat refine zR ?_
 refine zO R6 r2 (v:=.slice a1 l1 c1) R2 ?_
 repeat refine zR ?_
 refine zO R6 r3 (v:=.slice a2 l2 c2) R2 ?_
 have hn3:n≤n+1+1+1:=zo
 refine zw _ R5 (zb6 k (vT hG hx2 hn) (show 20≤n+1+1+1 by omega) (hA.ext hx2 hn3) (hC.ext hx2 hn3) nA nC hb h1) ?_
 rintro v h5 n5 _ ⟨L,⟨rfl,hn5,hx5,hs5,hN⟩,hv,hf⟩
 have ho:Off (3*(n+1+1)+2) v:=by
  rcases hf with hf|rfl|rfl
  ·exact hf.off zo
  ·exact hA.below.off zo
  exact hC.below.off zo
 obtain ⟨a,l,c,rfl,_⟩:=hs5.len
 have hb5:h5 (3*(n+1+1)+2)=_:=(hx5 _ zo).trans r4
 refine zI (v:=.agg #[.bool false,.slice a l c]) R4 rfl ?_
 refine zX [.bool false,.slice a l c] R8 hb5 rfl (by show 3*n≤3*(n+1+1)+2;omega) ?_
 refine zN ?_
 exact uR R5 (zg _ _ _) rfl ⟨_,_,_,L,rfl,⟨rfl,by show n≤n5;omega,fun b hb=>(zj zo).trans ((hx5 b zo).trans (hx2 b hb)),hs5.off ho,hN⟩,hv⟩
theorem iK (k:Nat){neg:Bool}{c:Nat}(hs:Sl h n 1 (.slice a l c) (u64s L))(hN:NW L):VF (cal (k+1)) 43 [.agg #[.bool neg,.slice a l c]] h n fun v=>v=.bool (!neg&&decide (wv L=1)):=by
 refine zB (fn:=Tryz.f43) R4 ?_
 have hlen:=hs.lenW
 subst hlen
 refine zN ?_
 refine nz (cs:=[.bool neg,.slice a L.length c]) R5 ?_
 generalize hh:upd h (3*n+2) _=h1
 have hx1:Ext n h h1:=by rw [←hh];exact Ext.upd zo
 have r1:∃e,h1 (3*n+2)=some (.row [.bool neg,.slice a L.length c] e):=⟨_,by rw [←hh,zg]⟩
 obtain ⟨e1,r1⟩:=r1
 clear hh
 have hs1:=hs.ext hx1 (Nat.le_succ n)
 repeat refine zR ?_
 refine zN ?_
 repeat refine zR ?_
 refine zO R6 r1 (v:=.bool neg) R2 ?_
 cases neg with
 |true=>
  repeat refine zR ?_
  refine zN ?_
  exact retF _ rfl (zi rfl) R2 rfl
 |false=>
 repeat refine zR ?_
 refine zO R6 r1 (v:=.slice a L.length c) R2 ?_
 by_cases h1:L.length=1
 ·obtain ⟨d,rfl⟩:=List.length_eq_one_iff.1 h1
  rw [show [d].length=1 from rfl] at r1 hs1 ⊢
  repeat refine zR ?_
  refine zO R6 r1 (v:=.slice a 1 c) R2 ?_
  refine yp (f:=fun d:Nat=>Value.int .u64 (d:Int)) (l:=[d]) (j:=0) R7 hs1 ⟨rfl,(by simp)⟩ rfl (fun _=>rfl) R4 fun _=>?_
  rw [sY]
  by_cases hd:d=1
  ·repeat refine zR ?_
   refine zN ?_
   exact retF _ rfl (zi rfl) R2 (by rw [decide_eq_true hd];rfl)
  repeat refine zR ?_
  refine zN ?_
  exact retF _ rfl (zi rfl) R2 (by rw [decide_eq_false hd];rfl)
 have hw:wv L≠1:=fun e=>h1 (by rw [hN.inj (NW.one (d:=1) zd zd) (by rw [e,sY])];rfl)
 repeat refine zR ?_
 refine zN ?_
 exact retF _ rfl (zi rfl) R2 (by rw [decide_eq_false hw];rfl)
end
def ExtT (n bt:Nat)(h h':HF):Prop:=∀b,b<3*n→b≠bt→h' b=h b
theorem ExtT.refl (n bt:Nat)(h:HF):ExtT n bt h h:=fun _ _ _=>rfl
theorem ExtT.trans {n n' bt:Nat}{a b c:HF}(h:ExtT n bt a b)(h':ExtT n' bt b c)(hn:n≤n'):ExtT n bt a c:=fun k hk hb=>(h' k zo hb).trans (h k hk hb)
theorem Ext.t {n bt:Nat}{h h':HF}(e:Ext n h h'):ExtT n bt h h':=fun k hk _=>e k hk
theorem ExtT.mono {n n' bt:Nat}{h h':HF}(e:ExtT n' bt h h')(hn:n≤n'):ExtT n bt h h':=fun k hk hb=>e k zo hb
theorem RatR.old {h:HF}{n m b:Nat}{n1 n2 d1 d2:Value}{q:Rat}{ln ld:List Nat}{y:Option BF}(r:RatR h n n1 n2 d1 d2 q ln ld)(hf:yO m n2)(hf2:yO m d2)(hb:b<3*m):RatR (upd h b y) n n1 n2 d1 d2 q ln ld:=⟨r.num.old hf hb,r.neg,r.sl.old hf2 hb,r.norm,r.val⟩
theorem Sl.cap {h:HF}{n sz:Nat}{a:Option Addr}{len cap:Nat}{c:List Value}(s:Sl h n sz (.slice a len cap) c):len≤cap:=by
 by_cases h0:len=0
 ·omega
 obtain ⟨_,_,_,_,_,_,_,_,h,_⟩:=s.inv h0
 exact h
def strs (l:List (List UInt8)):List Value:=l.map fun s=>Value.string ⟨⟨s⟩⟩
theorem za0 (a:List (List UInt8)):(strs a).length=a.length:=by simp [strs]
theorem mc {m:Nat}{W:List Nat}:∀{l:List (Nat×Nat)},xA m l=true→z0 m W l=true:=by
 intro l
 induction l with
 |nil=>intro _;rfl
 |cons x l ih=>
  intro h
  obtain ⟨i,b⟩:=x
  unfold xA at h
  split at h
  ·rename_i hb
   unfold z0
   rw [hb,Bool.true_or]
   exact ih h
  cases h
section
variable {X:CtxF}{ops r:List Oper}{ms:List Nat}{i m:Nat}{t:TF}{h:HF}{n:Nat}{w:List Nat}{al ld:List (Nat×Nat)}{ef:List (Nat×HF×List Nat)}{Q:SV→Prop}{o:Oper}{d:Tmp}
end
section
variable {cap:Nat}
theorem pi {h:HF}{n:Nat}{P:Value→HF→Nat→List Nat→Prop}(hf:GK.orc f args=none∧env.fn f=some fn∧fn.body=some body∧Nat.ble args.length fn.ntmps=true)
  (hx:EC (ctx k n fn.ntmps) body ⟨pg args,h,n,[]⟩ fun e s=>su e=true∧∃vs,resF env s fn.results.toList=some vs∧P (sm vs) s.h s.n s.w∧(s.w=[]→P (sm vs) h n [])):CF (cal (k+1)) f args h n P:=by
 obtain ⟨hf,hfn,hb,hle⟩:=hf
 refine ni hf hfn hb hle (tf hx fun e s ⟨h1,vs,h2,h3,h4⟩=>⟨h1,vs,h2,?_⟩)
 unfold endF
 split
 ·rename_i hw;exact h4 hw
 exact h3
section
variable {X:CtxF}{ops r:List Oper}{t:TF}{h:HF}{n:Nat}{w:List Nat}{Q:SV→Prop}{o:Oper}{d:Tmp}
theorem upd_self {x:Option BF}(hb:h b=x):upd h b x=h:=by
 funext j
 by_cases e:j=b
 ·rw [e,zg,hb]
 rw [zj e]
theorem tU {w:List Nat}:addW n0 [] w=w:=rfl
theorem jO {e3:TypeId}{s:Operand}{dLen:Nat}(hw:zh ops t o=true∧o.dst=some d∧zn X.nt (some d)=true∧o.op=.call {callee:=.builtin .copy,args:=#[s,x],argTypes:=#[sT,xT]}∧X.E.und sT=some (.slice e)∧X.E.inf e=some (size,bytes,z)∧evF t s=.slice (some ⟨b,0,none⟩) dLen cap)(hx:argS h size (evF t x) m cs)(hm:m≤dLen)(hb:h b=some (.row c e3))(hl:cs.length≤c.length)(h1:ones cs=true)(hnew:3*X.n0≤b)
  (k:EO X ops r ⟨upd t d (.int .i64 (m:Int)),upd h b (some (.row (cs++c.drop cs.length) e3)),n,w⟩ Q):EO X ops (o::r) ⟨t,h,n,w⟩ Q:=by
 obtain ⟨hw,hd,hn,ho,hu,hi,hs⟩:=hw
 have hmin:Nat.min m dLen=m:=Nat.min_eq_left hm
 have hc:∃W,ec X.E h n sT (evF t s) (evF t x)=some (.val (.int .i64 (m:Int)) (upd h b (some (.row (cs++c.drop cs.length) e3))) n W)∧∀y∈W,y=b:=by
  obtain ⟨h2,h3⟩:=hx
  cases cs with
  |nil=>
   refine ⟨[],?_,fun y hy=>by cases hy⟩
   rw [List.nil_append,List.length_nil,List.drop_zero,upd_self hb]
   simp only [ec,hu,hi,hs,h2,hmin,h3]
   rfl
  |cons v cs=>
   refine ⟨[b],?_,fun y hy=>List.mem_singleton.1 hy⟩
   have hst:wO h ⟨b,0,none⟩ (v::cs)=some (upd h b (some (.row ((v::cs)++c.drop (v::cs).length) e3))):=by
    rw [ur hb zo h1]
    unfold zm
    rw [List.take_zero,List.nil_append,Nat.zero_add]
   simp only [ec,hu,hi,hs,h2,hmin,h3,hst]
   rfl
 obtain ⟨W,hc,hW⟩:=hc
 have he:effF X.E o.op (evF t) h n=some (.val (.int .i64 (m:Int)) (upd h b (some (.row (cs++c.drop cs.length) e3))) n W):=by
  rw [ho]
  exact hc
 rw [rz hw (by rw [hd];exact hn) (by rw [ho];rfl) he,hd,z6 fun y hy=>by rw [hW y hy];exact hnew]
 exact k
end
theorem Sl.extW {h:HF}{n:Nat}(s:Sl h n sz v c)(e:ExtT n b h h')(ho:Off b v):Sl h' n sz v c:=
 s.keep (fun a l cap ev=>by
  have hb:=s.below
  subst ev
  exact e _ hb ho) (Nat.le_refl _)
theorem nK {h:HF}{n:Nat}{X:List Nat}(hb:b<3*n)(hr:h b=some (.row (u64s X) e))(hc:X.length≤cap):Sl h n 1 (.slice (some ⟨b,0,none⟩) X.length cap) (u64s X):=.at_ hb hr rfl hc (by rw [zF];omega) (by rw [List.drop_zero,List.take_of_length_le (by rw [zF];omega)])
theorem vE {D X:List Nat}{x:Nat}(hx:X[D.length]?=some x):(D++X.drop D.length)[D.length]?=some x:=by
 rw [List.getElem?_append_right (Nat.le_refl _),Nat.sub_self,List.getElem?_drop,Nat.add_zero,hx]
theorem zC {X:List Nat}{x:Nat}(hx:X[j]?=some x):wv (X.take (j+1))=wv (X.take j)+18446744073709551616^j*x:=we hx
theorem yH (D:List Nat)(d:Nat):wv (D++[d])=wv D+18446744073709551616^D.length*d:=sE _ _ _
theorem vU (D E:List Nat):wv (D++E)=wv D+18446744073709551616^D.length*wv E:=wC _ _ _
theorem rJ (X:List Nat)(j:Nat)(hj:j≤X.length):wv X=wv (X.take j)+18446744073709551616^j*wv (X.drop j):=by
 conv=>lhs;rw [←List.take_append_drop j X]
 rw [vU,List.length_take,Nat.min_eq_left hj]
theorem qW {x y c s:Nat}(hV:V+c*P=U)(hs:18446744073709551616*c'+s=x+y+c):V+P*s+c'*(P*18446744073709551616)=U+P*x+P*y:=by
 subst hV
 have:P*(18446744073709551616*c'+s)=P*(x+y+c):=by rw [hs]
 rw [Nat.mul_add,Nat.mul_add,Nat.mul_add,←Nat.mul_assoc] at this
 rw [Nat.mul_comm c' (P*18446744073709551616),Nat.mul_comm c P]
 omega
theorem wZ {W x y c s:Nat}(hV:V+W=U+c*P)(hs:s+y+c=x+18446744073709551616*c'):V+P*s+(W+P*y)=U+P*x+c'*(P*18446744073709551616):=by
 have:P*(s+y+c)=P*(x+18446744073709551616*c'):=by rw [hs]
 rw [Nat.mul_add,Nat.mul_add,Nat.mul_add,←Nat.mul_assoc] at this
 rw [Nat.mul_comm c' (P*18446744073709551616)]
 rw [Nat.mul_comm c P] at hV
 omega
theorem w9 {x y c:Nat}(hx:x<18446744073709551616)(hy:y<18446744073709551616)(hc:c≤1):(x+18446744073709551616-y-c)%18446744073709551616+y+c=x+18446744073709551616*(if y+c≤x then 0 else 1):=by
 by_cases h:y+c≤x
 ·rw [if_pos h];omega
 rw [if_neg h];omega
def RowW (n:Nat)(h:HF)(b:Nat)(e:TypeId)(h':HF)(n':Nat)(w:List Nat)(L:List Nat):Prop:=(∀c∈w,c=b)∧n'=n∧ExtT n b h h'∧h' b=some (.row (u64s L) e)
theorem eO (k:Nat){h:HF}{n cX cY:Nat}{aY:Option Addr}{X Y:List Nat}(hb:b<3*n)(hrow:h b=some (.row (u64s X) e))(hcX:X.length≤cX)(hX:WdD X)(hYs:Sl h n 1 (.slice aY l cY) (u64s Y))(hY:WdD Y)(ho:Off b (.slice aY l cY))(hl:Y.length≤X.length)(hbig:X.length<1000000000)(hv:wv X+wv Y<18446744073709551616^X.length):
  CF (cal (k+1)) 105 [.slice (some ⟨b,0,none⟩) X.length cX,.slice aY l cY] h n fun _ h' n' w=>∃L,RowW n h b e h' n' w L∧WdD L∧L.length=X.length∧wv L=wv X+wv Y:=by
 refine pi (fn:=Tryz.f105) R4 ?_
 have hlY:=hYs.lenW
 subst hlY
 have fin:∀(t:TF) (h':HF) (w:List Nat) (D:List Nat) (c:Nat),(∀x∈w,x=b)→ExtT n b h h'→(w=[]→h'=h)→h' b=some (.row (u64s (D++X.drop D.length)) e)→D.length≤X.length→WdD D→wv D+c*18446744073709551616^D.length=wv (X.take D.length)+wv Y→c=0→(su .normal=true∧∃vs,resF env ⟨t,h',n,w⟩ (Tryz.f105).results.toList=some vs∧(∃L,RowW n h b e h' n w L∧WdD L∧L.length=X.length∧wv L=wv X+wv Y)∧(w=[]→∃L,RowW n h b e h n [] L∧WdD L∧L.length=X.length∧wv L=wv X+wv Y)):=by
  intro t h' w D c g1 g2 g3 g4 g5 g6 g7 g8
  have hL:∃L,RowW n h b e h' n w L∧WdD L∧L.length=X.length∧wv L=wv X+wv Y:=⟨_,⟨g1,rfl,g2,g4⟩,g6.append (hX.drop _),by rw [List.length_append,List.length_drop];omega,by
   subst g8
   rw [vU]
   have h1:=rJ X D.length g5
   omega⟩
  refine ⟨rfl,[],rfl,hL,fun hw=>?_⟩
  subst hw
  rw [g3 rfl] at hL
  exact hL
 refine zN ?_
 repeat refine zR ?_
 refine zN ?_
 repeat refine zR ?_
 refine zN ?_
 refine z8 (α:=List Nat×Nat) (fun z=>[(0,.slice (some ⟨b,0,none⟩) X.length cX),(1,.slice aY Y.length cY),(4,.int .u64 (z.2:Int)),(8,.slice aY Y.length cY),(9,.int .i64 (Y.length:Int)),(10,.int .i64 (z.1.length:Int))])
  (fun z h' n' w=>n=n'∧(∀x∈w,x=b)∧ExtT n b h h'∧(w=[]→h'=h)∧h' b=some (.row (u64s (z.1++X.drop z.1.length)) e)∧z.1.length≤Y.length∧WdD z.1∧z.2≤1∧wv z.1+z.2*18446744073709551616^z.1.length=wv (X.take z.1.length)+wv (Y.take z.1.length)) (fun z=>Y.length-z.1.length)
  ([],0) ⟨rfl,rfl,rfl,rfl,rfl,rfl,trivial⟩ ⟨rfl,fun x hx=>absurd hx List.not_mem_nil,ExtT.refl _ _ _,fun _=>rfl,hrow,Nat.zero_le _,WdD.nil,by show (0:Nat)≤1;decide,by simp [wv,dv]⟩ (by show Y.length-0<LL;unfold LL;omega) ?_
 rintro ⟨D,c⟩ t h1 _ w ⟨rfl,hw,hx1,hw0,hr1,hD,hDd,hc,hV⟩
 simp only at hr1 hD hDd hc hV
 refine zN ?_
 by_cases hDY:D.length=Y.length
 case neg=>
  obtain ⟨y,hy⟩:∃y,Y[D.length]?=some y:=⟨Y[D.length]'zo,List.getElem?_eq_getElem zo⟩
  obtain ⟨x,hx⟩:∃x,X[D.length]?=some x:=⟨X[D.length]'zo,List.getElem?_eq_getElem zo⟩
  have hyl:=hY.get hy
  have hxl:=hX.get hx
  have hZ:=nK (cap:=cX) hb hr1 (by rw [List.length_append,List.length_drop];omega)
  rw [show (D++X.drop D.length).length=X.length from by rw [List.length_append,List.length_drop];omega] at hZ
  repeat refine zR ?_
  refine zN ?_
  rw [ze rfl]
  refine zN ?_
  repeat refine zR ?_
  refine yp (f:=fun d:Nat=>Value.int .u64 (d:Int)) (j:=D.length) R7 (hYs.extW hx1 ho) R2 hy (fun _=>rfl) R4 fun _=>?_
  repeat refine zR ?_
  refine zN ?_
  repeat refine zR ?_
  refine yp (f:=fun d:Nat=>Value.int .u64 (d:Int)) (j:=D.length) R7 hZ R2 (vE hx) (fun _=>rfl) R4 fun _=>?_
  repeat refine zR ?_
  refine vy (x:=x) (y:=y) (c:=c) R5 hc ?_
  obtain ⟨s,hs⟩:∃s,s=(x+y+c)%18446744073709551616:=⟨_,rfl⟩
  obtain ⟨c',hc'⟩:∃c',c'=(x+y+c)/18446744073709551616:=⟨_,rfl⟩
  rw [←hs,←hc']
  repeat refine zR ?_
  refine yn (j:=D.length) (off:=0) (v:=.int .u64 (s:Int)) R8 rfl ⟨zo,by rw [zF,List.length_append,List.length_drop];omega⟩ hr1 hb (fun _=>rfl) R3 (fun _=>rfl) rfl fun _=>?_
  rw [Nat.zero_add,ye,uu _ hx]
  repeat refine zR ?_
  refine zN ?_
  repeat refine zR ?_
  refine zN ?_
  have hsl:s<18446744073709551616:=by rw [hs];exact Nat.mod_lt _ zd
  have hcl:c'≤1:=by rw [hc'];omega
  have hsc:18446744073709551616*c'+s=x+y+c:=by rw [hs,hc'];omega
  refine goOn (D++[s],c') (by show Y.length-(D++[s]).length<Y.length-D.length;rw [List.length_append,List.length_singleton];omega) ⟨rfl,rfl,rfl,rfl,rfl,by show Value.int .i64 _=Value.int .i64 _;rw [List.length_append];rfl,trivial⟩ ⟨rfl,fun z hz=>by
   rcases List.mem_cons.1 hz with rfl|hz
   ·rfl
   ·exact hw z hz,fun z hz hzb=>(zj hzb).trans (hx1 z hz hzb),fun h=>(by cases h),zg _ _ _,by show (D++[s]).length≤_;rw [List.length_append,List.length_singleton];omega,WdD.snoc hDd hsl,hcl,?_⟩
  simp only
  rw [List.length_append,List.length_singleton,yH,zC hx,zC hy,Nat.pow_succ]
  have:=qW hV hsc;omega
 have hYt:Y.take D.length=Y:=by rw [hDY,List.take_length]
 rw [hYt] at hV
 repeat refine zR ?_
 refine zN ?_
 rw [za rfl]
 refine zN ?_
 repeat refine zR ?_
 refine zN ?_
 refine z8 (α:=List Nat×Nat) (fun z=>[(0,.slice (some ⟨b,0,none⟩) X.length cX),(4,.int .u64 (z.2:Int)),(7,.int .i64 (z.1.length:Int))])
  (fun z h' n' w=>n=n'∧(∀x∈w,x=b)∧ExtT n b h h'∧(w=[]→h'=h)∧h' b=some (.row (u64s (z.1++X.drop z.1.length)) e)∧z.1.length≤X.length∧WdD z.1∧z.2≤1∧wv z.1+z.2*18446744073709551616^z.1.length=wv (X.take z.1.length)+wv Y) (fun z=>X.length-z.1.length)
  (D,c) ⟨rfl,rfl,by show Value.int .i64 _=Value.int .i64 _;rw [hDY],trivial⟩ ⟨rfl,hw,hx1,hw0,hr1,by show D.length≤_;omega,hDd,hc,hV⟩ (by show X.length-D.length<LL;unfold LL;omega) ?_
 clear hV hc hDd hr1 hw0 hx1 hw hYt hDY hD
 rintro ⟨D,c⟩ t h1 _ w ⟨rfl,hw,hx1,hw0,hr1,hD,hDd,hc,hV⟩
 simp only at hr1 hD hDd hc hV
 refine zN ?_
 by_cases hc0:c=0
 ·repeat refine zR ?_
  refine zN ?_
  rw [za rfl]
  refine zN ?_
  exact fin _ _ _ D c hw hx1 hw0 hr1 hD hDd hV hc0
 by_cases hDX:D.length=X.length
 ·repeat refine zR ?_
  refine zN ?_
  rw [za rfl]
  refine zN ?_
  refine fin _ _ _ D c hw hx1 hw0 hr1 hD hDd hV ?_
  have hDl:=ws hDd
  rw [hDX,List.take_length] at hV
  rw [hDX] at hDl
  rcases Nat.eq_zero_or_pos c with h|h
  ·exact h
  have:=Nat.mul_le_mul_right (18446744073709551616^X.length) h
  omega
 obtain ⟨x,hx⟩:∃x,X[D.length]?=some x:=⟨X[D.length]'zo,List.getElem?_eq_getElem zo⟩
 have hxl:=hX.get hx
 have hZ:=nK (cap:=cX) hb hr1 (by rw [List.length_append,List.length_drop];omega)
 rw [show (D++X.drop D.length).length=X.length from by rw [List.length_append,List.length_drop];omega] at hZ
 repeat refine zR ?_
 refine zN ?_
 rw [ze rfl]
 refine zN ?_
 repeat refine zR ?_
 refine yp (f:=fun d:Nat=>Value.int .u64 (d:Int)) (j:=D.length) R7 hZ R2 (vE hx) (fun _=>rfl) R4 fun _=>?_
 repeat refine zR ?_
 refine vy (x:=x) (y:=0) (c:=c) R5 hc ?_
 obtain ⟨s,hs⟩:∃s,s=(x+0+c)%18446744073709551616:=⟨_,rfl⟩
 obtain ⟨c',hc'⟩:∃c',c'=(x+0+c)/18446744073709551616:=⟨_,rfl⟩
 rw [←hs,←hc']
 repeat refine zR ?_
 refine yn (j:=D.length) (off:=0) (v:=.int .u64 (s:Int)) R8 rfl ⟨zo,by rw [zF,List.length_append,List.length_drop];omega⟩ hr1 hb (fun _=>rfl) R3 (fun _=>rfl) rfl fun _=>?_
 rw [Nat.zero_add,ye,uu _ hx]
 repeat refine zR ?_
 refine zN ?_
 repeat refine zR ?_
 refine zN ?_
 have hsl:s<18446744073709551616:=by rw [hs];exact Nat.mod_lt _ zd
 have hcl:c'≤1:=by rw [hc'];omega
 have hsc:18446744073709551616*c'+s=x+0+c:=by rw [hs,hc'];omega
 refine goOn (D++[s],c') (by show X.length-(D++[s]).length<X.length-D.length;rw [List.length_append,List.length_singleton];omega) ⟨rfl,rfl,by show Value.int .i64 _=Value.int .i64 _;rw [List.length_append];rfl,trivial⟩ ⟨rfl,fun z hz=>by
  rcases List.mem_cons.1 hz with rfl|hz
  ·rfl
  ·exact hw z hz,fun z hz hzb=>(zj hzb).trans (hx1 z hz hzb),fun h=>(by cases h),zg _ _ _,by show (D++[s]).length≤_;rw [List.length_append,List.length_singleton];omega,WdD.snoc hDd hsl,hcl,?_⟩
 simp only
 rw [List.length_append,List.length_singleton,yH,zC hx,Nat.pow_succ]
 have:=qW hV hsc;omega
theorem fe (k:Nat){h:HF}{n cX cY:Nat}{aY:Option Addr}{X Y:List Nat}(hb:b<3*n)(hrow:h b=some (.row (u64s X) e))(hcX:X.length≤cX)(hX:WdD X)(hYs:Sl h n 1 (.slice aY l cY) (u64s Y))(hY:WdD Y)(ho:Off b (.slice aY l cY))(hl:Y.length≤X.length)(hbig:X.length<1000000000)(hv:wv Y≤wv X):
  CF (cal (k+1)) 110 [.slice (some ⟨b,0,none⟩) X.length cX,.slice aY l cY] h n fun _ h' n' w=>∃L,RowW n h b e h' n' w L∧WdD L∧L.length=X.length∧wv L+wv Y=wv X:=by
 refine pi (fn:=Tryz.f110) R4 ?_
 have hlY:=hYs.lenW
 subst hlY
 have fin:∀(t:TF) (h':HF) (w:List Nat) (D:List Nat) (c:Nat),(∀x∈w,x=b)→ExtT n b h h'→(w=[]→h'=h)→h' b=some (.row (u64s (D++X.drop D.length)) e)→D.length≤X.length→WdD D→wv D+wv Y=wv (X.take D.length)+c*18446744073709551616^D.length→c=0→(su .normal=true∧∃vs,resF env ⟨t,h',n,w⟩ (Tryz.f110).results.toList=some vs∧(∃L,RowW n h b e h' n w L∧WdD L∧L.length=X.length∧wv L+wv Y=wv X)∧(w=[]→∃L,RowW n h b e h n [] L∧WdD L∧L.length=X.length∧wv L+wv Y=wv X)):=by
  intro t h' w D c g1 g2 g3 g4 g5 g6 g7 g8
  have hL:∃L,RowW n h b e h' n w L∧WdD L∧L.length=X.length∧wv L+wv Y=wv X:=⟨_,⟨g1,rfl,g2,g4⟩,g6.append (hX.drop _),by rw [List.length_append,List.length_drop];omega,by
   subst g8
   rw [vU]
   have h1:=rJ X D.length g5
   omega⟩
  refine ⟨rfl,[],rfl,hL,fun hw=>?_⟩
  subst hw
  rw [g3 rfl] at hL
  exact hL
 refine zN ?_
 repeat refine zR ?_
 refine zN ?_
 repeat refine zR ?_
 refine zN ?_
 refine z8 (α:=List Nat×Nat) (fun z=>[(0,.slice (some ⟨b,0,none⟩) X.length cX),(1,.slice aY Y.length cY),(4,.int .u64 (z.2:Int)),(8,.slice aY Y.length cY),(9,.int .i64 (Y.length:Int)),(10,.int .i64 (z.1.length:Int))])
  (fun z h' n' w=>n=n'∧(∀x∈w,x=b)∧ExtT n b h h'∧(w=[]→h'=h)∧h' b=some (.row (u64s (z.1++X.drop z.1.length)) e)∧z.1.length≤Y.length∧WdD z.1∧z.2≤1∧wv z.1+wv (Y.take z.1.length)=wv (X.take z.1.length)+z.2*18446744073709551616^z.1.length) (fun z=>Y.length-z.1.length)
  ([],0) ⟨rfl,rfl,rfl,rfl,rfl,rfl,trivial⟩ ⟨rfl,fun x hx=>absurd hx List.not_mem_nil,ExtT.refl _ _ _,fun _=>rfl,hrow,Nat.zero_le _,WdD.nil,by show (0:Nat)≤1;decide,by simp [wv,dv]⟩ (by show Y.length-0<LL;unfold LL;omega) ?_
 rintro ⟨D,c⟩ t h1 _ w ⟨rfl,hw,hx1,hw0,hr1,hD,hDd,hc,hV⟩
 simp only at hr1 hD hDd hc hV
 refine zN ?_
 by_cases hDY:D.length=Y.length
 case neg=>
  obtain ⟨y,hy⟩:∃y,Y[D.length]?=some y:=⟨Y[D.length]'zo,List.getElem?_eq_getElem zo⟩
  obtain ⟨x,hx⟩:∃x,X[D.length]?=some x:=⟨X[D.length]'zo,List.getElem?_eq_getElem zo⟩
  have hyl:=hY.get hy
  have hxl:=hX.get hx
  have hZ:=nK (cap:=cX) hb hr1 (by rw [List.length_append,List.length_drop];omega)
  rw [show (D++X.drop D.length).length=X.length from by rw [List.length_append,List.length_drop];omega] at hZ
  repeat refine zR ?_
  refine zN ?_
  rw [ze rfl]
  refine zN ?_
  repeat refine zR ?_
  refine yp (f:=fun d:Nat=>Value.int .u64 (d:Int)) (j:=D.length) R7 (hYs.extW hx1 ho) R2 hy (fun _=>rfl) R4 fun _=>?_
  repeat refine zR ?_
  refine zN ?_
  repeat refine zR ?_
  refine yp (f:=fun d:Nat=>Value.int .u64 (d:Int)) (j:=D.length) R7 hZ R2 (vE hx) (fun _=>rfl) R4 fun _=>?_
  repeat refine zR ?_
  refine tw (x:=x) (y:=y) (c:=c) R5 hc ?_
  obtain ⟨s,hs⟩:∃s,s=(x+18446744073709551616-y-c)%18446744073709551616:=⟨_,rfl⟩
  obtain ⟨c',hc'⟩:∃c',c'=(if y+c≤x then 0 else 1):=⟨_,rfl⟩
  rw [←hs,←hc']
  repeat refine zR ?_
  refine yn (j:=D.length) (off:=0) (v:=.int .u64 (s:Int)) R8 rfl ⟨zo,by rw [zF,List.length_append,List.length_drop];omega⟩ hr1 hb (fun _=>rfl) R3 (fun _=>rfl) rfl fun _=>?_
  rw [Nat.zero_add,ye,uu _ hx]
  repeat refine zR ?_
  refine zN ?_
  repeat refine zR ?_
  refine zN ?_
  have hsl:s<18446744073709551616:=by rw [hs];exact Nat.mod_lt _ zd
  have hcl:c'≤1:=by rw [hc'];split<;>decide
  have hsc:s+y+c=x+18446744073709551616*c':=by rw [hs,hc'];exact w9 hxl (by first|exact hyl|decide) hc
  refine goOn (D++[s],c') (by show Y.length-(D++[s]).length<Y.length-D.length;rw [List.length_append,List.length_singleton];omega) ⟨rfl,rfl,rfl,rfl,rfl,by show Value.int .i64 _=Value.int .i64 _;rw [List.length_append];rfl,trivial⟩ ⟨rfl,fun z hz=>by
   rcases List.mem_cons.1 hz with rfl|hz
   ·rfl
   ·exact hw z hz,fun z hz hzb=>(zj hzb).trans (hx1 z hz hzb),fun h=>(by cases h),zg _ _ _,by show (D++[s]).length≤_;rw [List.length_append,List.length_singleton];omega,WdD.snoc hDd hsl,hcl,?_⟩
  simp only
  rw [List.length_append,List.length_singleton,yH,zC hx,zC hy,Nat.pow_succ]
  have:=wZ hV hsc;omega
 have hYt:Y.take D.length=Y:=by rw [hDY,List.take_length]
 rw [hYt] at hV
 repeat refine zR ?_
 refine zN ?_
 rw [za rfl]
 refine zN ?_
 repeat refine zR ?_
 refine zN ?_
 refine z8 (α:=List Nat×Nat) (fun z=>[(0,.slice (some ⟨b,0,none⟩) X.length cX),(4,.int .u64 (z.2:Int)),(7,.int .i64 (z.1.length:Int))])
  (fun z h' n' w=>n=n'∧(∀x∈w,x=b)∧ExtT n b h h'∧(w=[]→h'=h)∧h' b=some (.row (u64s (z.1++X.drop z.1.length)) e)∧z.1.length≤X.length∧WdD z.1∧z.2≤1∧wv z.1+wv Y=wv (X.take z.1.length)+z.2*18446744073709551616^z.1.length) (fun z=>X.length-z.1.length)
  (D,c) ⟨rfl,rfl,by show Value.int .i64 _=Value.int .i64 _;rw [hDY],trivial⟩ ⟨rfl,hw,hx1,hw0,hr1,by show D.length≤_;omega,hDd,hc,hV⟩ (by show X.length-D.length<LL;unfold LL;omega) ?_
 clear hV hc hDd hr1 hw0 hx1 hw hYt hDY hD
 rintro ⟨D,c⟩ t h1 _ w ⟨rfl,hw,hx1,hw0,hr1,hD,hDd,hc,hV⟩
 simp only at hr1 hD hDd hc hV
 refine zN ?_
 by_cases hc0:c=0
 ·repeat refine zR ?_
  refine zN ?_
  rw [za rfl]
  refine zN ?_
  exact fin _ _ _ D c hw hx1 hw0 hr1 hD hDd hV hc0
 by_cases hDX:D.length=X.length
 ·repeat refine zR ?_
  refine zN ?_
  rw [za rfl]
  refine zN ?_
  refine fin _ _ _ D c hw hx1 hw0 hr1 hD hDd hV ?_
  have hDl:=ws hDd
  rw [hDX,List.take_length] at hV
  rw [hDX] at hDl
  rcases Nat.eq_zero_or_pos c with h|h
  ·exact h
  have:=Nat.mul_le_mul_right (18446744073709551616^X.length) h
  omega
 obtain ⟨x,hx⟩:∃x,X[D.length]?=some x:=⟨X[D.length]'zo,List.getElem?_eq_getElem zo⟩
 have hxl:=hX.get hx
 have hZ:=nK (cap:=cX) hb hr1 (by rw [List.length_append,List.length_drop];omega)
 rw [show (D++X.drop D.length).length=X.length from by rw [List.length_append,List.length_drop];omega] at hZ
 repeat refine zR ?_
 refine zN ?_
 rw [ze rfl]
 refine zN ?_
 repeat refine zR ?_
 refine yp (f:=fun d:Nat=>Value.int .u64 (d:Int)) (j:=D.length) R7 hZ R2 (vE hx) (fun _=>rfl) R4 fun _=>?_
 repeat refine zR ?_
 refine tw (x:=x) (y:=0) (c:=c) R5 hc ?_
 obtain ⟨s,hs⟩:∃s,s=(x+18446744073709551616-0-c)%18446744073709551616:=⟨_,rfl⟩
 obtain ⟨c',hc'⟩:∃c',c'=(if 0+c≤x then 0 else 1):=⟨_,rfl⟩
 rw [←hs,←hc']
 repeat refine zR ?_
 refine yn (j:=D.length) (off:=0) (v:=.int .u64 (s:Int)) R8 rfl ⟨zo,by rw [zF,List.length_append,List.length_drop];omega⟩ hr1 hb (fun _=>rfl) R3 (fun _=>rfl) rfl fun _=>?_
 rw [Nat.zero_add,ye,uu _ hx]
 repeat refine zR ?_
 refine zN ?_
 repeat refine zR ?_
 refine zN ?_
 have hsl:s<18446744073709551616:=by rw [hs];exact Nat.mod_lt _ zd
 have hcl:c'≤1:=by rw [hc'];split<;>decide
 have hsc:s+0+c=x+18446744073709551616*c':=by rw [hs,hc'];exact w9 hxl (by first|exact hyl|decide) hc
 refine goOn (D++[s],c') (by show X.length-(D++[s]).length<X.length-D.length;rw [List.length_append,List.length_singleton];omega) ⟨rfl,rfl,by show Value.int .i64 _=Value.int .i64 _;rw [List.length_append];rfl,trivial⟩ ⟨rfl,fun z hz=>by
  rcases List.mem_cons.1 hz with rfl|hz
  ·rfl
  ·exact hw z hz,fun z hz hzb=>(zj hzb).trans (hx1 z hz hzb),fun h=>(by cases h),zg _ _ _,by show (D++[s]).length≤_;rw [List.length_append,List.length_singleton];omega,WdD.snoc hDd hsl,hcl,?_⟩
 simp only
 rw [List.length_append,List.length_singleton,yH,zC hx,Nat.pow_succ]
 have:=wZ hV hsc;omega
theorem xm {n:Nat}{h:HF}(hb:b<3*n)(hr:h b=some (.row (u64s L) e))(hl:L.length=l):Sl h n 1 (.slice (some ⟨b,0,none⟩) l l) (u64s L):=by
 subst hl
 exact nK hb hr (Nat.le_refl _)
theorem wk (h:WdD L):NW (z5 L)∧wv (z5 L)=wv L:=⟨NW.trim h,rK _ _⟩
def zgo (n:Nat)(v u1 u2:Value):Prop:=yO n v∨v=u1∨v=u2
theorem jz (k:Nat){h:HF}{n:Nat}(hA:Sl h n 1 (.slice a1 l1 c1) (u64s A))(hC:Sl h n 1 (.slice a2 l2 c2) (u64s C))(nA:NW A)(nC:NW C)(hb:A.length<100000000∧C.length<100000000):
  CF (cal (k+2)) 78 [.slice a1 l1 c1,.slice a2 l2 c2] h n fun v h' n' w=>∃L,ResW n h v h' n' w L∧wv L=wv A+wv C∧zgo n v (.slice a1 l1 c1) (.slice a2 l2 c2):=by
 refine zv (fn:=Tryz.f78) R4 ?_
 have e1:=hA.lenW
 have e2:=hC.lenW
 subst e1 e2
 refine zN ?_
 repeat refine zR ?_
 refine zN ?_
 refine zM ?_
 refine st_I (ik:=.i64) (a:=(A.length:Int)) R5 ?_
 refine zM ?_
 refine st_I (ik:=.i64) (a:=(C.length:Int)) R5 ?_
 refine pY R6 ?_
 simp only [yE,xE,zK,xz]
 refine yP (α:=(Option Addr×Nat×List Nat)×(Option Addr×Nat×List Nat)) (fun z=>[(0,.slice z.1.1 z.1.2.2.length z.1.2.1),(1,.slice z.2.1 z.2.2.2.length z.2.2.1)]) (fun z h' n' w=>h=h'∧n=n'∧w=[]∧Sl h n 1 (.slice z.1.1 z.1.2.2.length z.1.2.1) (u64s z.1.2.2)∧Sl h n 1 (.slice z.2.1 z.2.2.2.length z.2.2.1) (u64s z.2.2.2)∧NW z.1.2.2∧NW z.2.2.2∧z.2.2.2.length≤z.1.2.2.length∧z.1.2.2.length<100000000∧wv z.1.2.2+wv z.2.2.2=wv A+wv C∧(Value.slice z.1.1 z.1.2.2.length z.1.2.1=.slice a1 A.length c1∨Value.slice z.1.1 z.1.2.2.length z.1.2.1=.slice a2 C.length c2)) ?_ ?_
 ·by_cases hlt:A.length<C.length
  ·rw [ze (by show Value.bool _=_;rw [decide_eq_true zo])]
   refine zN ?_
   repeat refine zR ?_
   refine zN ?_
   exact zS ((a2,c2,C),(a1,c1,A)) ⟨rfl,rfl,trivial⟩ ⟨rfl,rfl,rfl,hC,hA,nC,nA,by show A.length≤C.length;omega,hb.2,Nat.add_comm _ _,.inr rfl⟩
  rw [za (by show Value.bool _=_;rw [decide_eq_false zo])]
  refine zN ?_
  exact zS ((a1,c1,A),(a2,c2,C)) ⟨rfl,rfl,trivial⟩ ⟨rfl,rfl,rfl,hA,hC,nA,nC,by show C.length≤A.length;omega,hb.1,rfl,.inl rfl⟩
 rintro ⟨⟨a,c,X⟩,⟨a',c',Y⟩⟩ t _ _ _ ⟨rfl,rfl,rfl,hX,hY,nX,nY,hYX,hXl,hsum,hv⟩
 simp only at hX hY nX nY hYX hXl hsum hv
 rw [←hsum]
 refine zN ?_
 by_cases hY0:Y.length=0
 ·repeat refine zR ?_
  refine zN ?_
  rw [ze rfl]
  refine zN ?_
  repeat refine zR ?_
  refine zN ?_
  rw [List.length_eq_zero_iff.1 hY0]
  exact retH _ ⟨rfl,(zi rfl),rfl⟩ ⟨X,⟨rfl,Nat.le_refl _,Ext.refl _ _,hX,nX⟩,rfl,.inr hv⟩
 repeat refine zR ?_
 refine zN ?_
 rw [za rfl]
 refine zN ?_
 repeat refine zR ?_
 refine vv (len:=X.length+1) (cap:=X.length+1) R9 zo ?_
 rw [show zl (Value.int .u64 0)=[Value.int .u64 0] from rfl,xJ]
 repeat refine zR ?_
 refine zN ?_
 repeat refine zR ?_
 have hX1:=hX.ext (Ext.upd (h:=h) (b:=3*n+2) (x:=some (.row (u64s (List.replicate (X.length+1) 0)) 129)) (show 3*n≤3*n+2 by omega)) (Nat.le_succ n)
 refine jO (m:=X.length) R7 (sR hX1) zs (zg _ _ _) (by rw [zF,zF];simp) (vh X) (by show 3*n≤3*n+2;omega) ?_
 rw [wu,zF,tk,←wx,List.drop_replicate,show X.length+1-X.length=1 from zo]
 generalize hh:upd h (3*n+2) _=h1
 have hr1:∃e,h1 (3*n+2)=some (.row (u64s (X++[0])) e):=⟨_,by rw [←hh,zg];rfl⟩
 obtain ⟨e,hr1⟩:=hr1
 have hx1:Ext n h h1:=by rw [←hh];exact Ext.upd zo
 clear hh hX1
 have hlen1:(X++[0]).length=X.length+1:=by simp
 have hw0:wv (X++[0])=wv X:=by rw [yH,Nat.mul_zero,Nat.add_zero]
 have hbnd:wv (X++[0])+wv Y<18446744073709551616^(X++[0]).length:=by
  have h1:=ws nX.1
  have h2:=ws nY.1
  have h3:18446744073709551616^Y.length≤18446744073709551616^X.length:=Nat.pow_le_pow_right zd hYX
  rw [hw0,hlen1,Nat.pow_succ]
  omega
 refine zN ?_
 repeat refine zR ?_
 have hadd:=eO k (h:=h1) (n:=n+1) (b:=3*n+2) (X:=X++[0]) (cX:=X.length+1) zo hr1 zo (WdD.snoc nX.1 zd) (hY.ext hx1 (Nat.le_succ n)) nY.1 (hY.below.off zo) zo zo hbnd
 rw [hlen1] at hadd
 refine zw _ R5 hadd ?_
 rintro _ h2 _ w2 ⟨L,⟨hw2,rfl,hx2,hr2⟩,hLd,hLl,hLv⟩
 try simp only [tU]
 rw [z6 (w:=[]) fun y hy=>by rw [hw2 y hy];show 3*n≤3*n+2;omega]
 repeat refine zR ?_
 refine zN ?_
 repeat refine zR ?_
 have htr:=xB k (h:=h2) (n:=n+1) (a:=some ⟨3*n+2,0,none⟩) (len:=X.length+1) (cap:=X.length+1) (l:=L) zo (fun _ e=>by injection e with e;rw [←e]) (xm zo hr2 zo)
 refine zw _ R5 htr ?_
 rintro _ _ _ _ ⟨rfl,rfl,rfl,rfl,hs⟩
 repeat refine zR ?_
 refine zN ?_
 obtain ⟨t1,t2⟩:=wk hLd
 exact retH _ ⟨rfl,(zi rfl),rfl⟩ ⟨_,⟨rfl,Nat.le_succ n,fun b hb=>(hx2 b zo zo).trans (hx1 b hb),hs,t1⟩,by rw [t2,hLv,hw0],.inl (by show 3*n≤3*n+2;omega)⟩
theorem lN (k:Nat){h:HF}{n:Nat}(hA:Sl h n 1 (.slice a1 l1 c1) (u64s A))(hC:Sl h n 1 (.slice a2 l2 c2) (u64s C))(nA:NW A)(nC:NW C)(hb:A.length<100000000)(hle:wv C≤wv A):
  CF (cal (k+2)) 80 [.slice a1 l1 c1,.slice a2 l2 c2] h n fun v h' n' w=>∃L,ResW n h v h' n' w L∧wv L=wv A-wv C∧zgo n v (.slice a1 l1 c1) (.slice a2 l2 c2):=by
 refine zv (fn:=Tryz.f80) R4 ?_
 have e1:=hA.lenW
 have e2:=hC.lenW
 subst e1 e2
 have hlen:C.length≤A.length:=by
  rcases Nat.lt_or_ge A.length C.length with hl|hl
  ·have:=nA.len_lt nC hl;omega
  exact hl
 refine zN ?_
 repeat refine zR ?_
 refine zN ?_
 by_cases hC0:C.length=0
 ·repeat refine zR ?_
  refine zN ?_
  rw [ze rfl]
  refine zN ?_
  repeat refine zR ?_
  refine zN ?_
  rw [List.length_eq_zero_iff.1 hC0]
  exact retH _ ⟨rfl,(zi rfl),rfl⟩ ⟨A,⟨rfl,Nat.le_refl _,Ext.refl _ _,hA,nA⟩,rfl,.inr (.inl rfl)⟩
 repeat refine zR ?_
 refine zN ?_
 rw [za rfl]
 refine zN ?_
 refine zM ?_
 refine zw _ R5 (xR k hA zo) ?_
 rintro v1 h1 n1 _ ⟨rfl,hn1,hx1,hs1,hg1⟩
 obtain ⟨b,rfl,_,hb1,hb2,hr1,_⟩:=(hg1 (fun e=>by rw [e] at hlen;simp at hlen;exact hC0 (by rw [hlen];rfl))).inv2 zo
 repeat refine zR ?_
 refine zN ?_
 repeat refine zR ?_
 refine zw _ R5 (fe k (cX:=A.length) hb2 hr1 (Nat.le_refl _) nA.1 (hC.ext hx1 hn1) nC.1 (hC.below.off zo) hlen zo hle) ?_
 rintro _ h2 n2 w2 ⟨L,⟨hw2,rfl,hx2,hr2⟩,hLd,hLl,hLv⟩
 try simp only [tU]
 rw [z6 (w:=[]) fun y hy=>by rw [hw2 y hy];exact hb1]
 repeat refine zR ?_
 refine zN ?_
 repeat refine zR ?_
 have htr:=xB k (h:=h2) (n:=n2) (a:=some ⟨b,0,none⟩) (len:=A.length) (cap:=A.length) (l:=L) zo (fun _ e=>by injection e with e;rw [←e]) (xm hb2 hr2 hLl)
 refine zw _ R5 htr ?_
 rintro _ _ _ _ ⟨rfl,rfl,rfl,rfl,hs⟩
 repeat refine zR ?_
 refine zN ?_
 obtain ⟨t1,t2⟩:=wk hLd
 exact retH _ ⟨rfl,(zi rfl),rfl⟩ ⟨_,⟨rfl,hn1,fun c hc=>(hx2 c zo zo).trans (hx1 c hc),hs,t1⟩,by rw [t2];omega,.inl hb1⟩
end
section
variable {cap:Nat}
section
variable {X:CtxF}{ops r:List Oper}{t:TF}{h:HF}{n:Nat}{w:List Nat}{Q:SV→Prop}{o:Oper}{d:Tmp}
theorem qf {lo:Operand}{j j':Int}(m m':Nat)(hw:zh ops t o=true∧o.dst=some d∧zn X.nt (some d)=true∧o.op=.slice ty x (some lo) (some hi) none∧X.E.und ty=some (.slice e)∧X.E.inf e=some (sz,bt,z)∧evF t x=.slice (some ⟨b,off,none⟩) len cap∧evF t lo=.int ik j∧evF t hi=.int ik' j')(hm:j=(m:Int))(hm':j'=(m':Int))(hr:m≤m'∧m'≤cap∧m<cap)
  (k:EO X ops r ⟨upd t d (.slice (some ⟨b,off+m*sz,none⟩) (m'-m) (cap-m)),h,n,w⟩ Q):EO X ops (o::r) ⟨t,h,n,w⟩ Q:=by
 obtain ⟨hw,hd,hn,ho,hu,hi',hx,hj,hj'⟩:=hw
 refine zI ⟨hw,hd,hn,(by rw [ho];rfl)⟩ ?_ k
 rw [ho]
 subst hm hm'
 show yW X.E ty (evF t x) (some (evF t lo)) (some (evF t hi))=_
 rw [hx,hj,hj']
 have h1:(0:Int)≤(m':Int)∧(m':Int)≤cap:=zo
 have h0:(0:Int)≤(m:Int)∧(m:Int)≤m':=zo
 have hb:Nat.ble cap m=false:=by
  cases hb:Nat.ble cap m with
  |false=>rfl
  |true=>have:=Nat.le_of_ble_eq_true hb;omega
 have h2:(gro b&&(Nat.ble 1 m&&Nat.ble cap m))=false:=by rw [hb];simp
 have h3:offA cap m sz ⟨b,off,none⟩=⟨b,off+m*sz,none⟩:=by
  unfold offA
  have:Nat.beq cap m=false:=by
   cases hb:Nat.beq cap m with
   |false=>rfl
   |true=>have:=Nat.eq_of_beq_eq_true hb;omega
  rw [this,wF]
 simp only [yW,hu,hi',bnd,if_pos h1,if_pos h0,Int.toNat_natCast,h2,h3]
end
theorem jD {h:HF}{n:Nat}{P:List Nat}(hb:b<3*n)(hr:h b=some (.row (u64s (P++(Z++S))) e))(hc:Z.length≤cap):Sl h n 1 (.slice (some ⟨b,P.length,none⟩) Z.length cap) (u64s Z):=by
 refine .at_ hb hr rfl hc (by rw [zF];simp only [List.length_append];omega) ?_
 rw [tk,tj,List.drop_left' rfl,Nat.mul_one,List.take_left' rfl]
theorem oj {P D:List Nat}{x:Nat}(d:Nat)(hx:Z[D.length]?=some x):(P++((D++Z.drop D.length)++S)).set (P.length+D.length) d=P++(((D++[d])++Z.drop (D++[d]).length)++S):=by
 have hl:D.length<Z.length:=(List.getElem?_eq_some_iff.1 hx).1
 rw [List.set_append_right _ _ zo,show P.length+D.length-P.length=D.length from zo,List.set_append_left _ _ (by rw [List.length_append,List.length_drop];omega),uu d hx]
theorem rh {v w:Nat}(hv:v<18446744073709551616)(hw:w<18446744073709551616):v*w≤340282366920938463426481119284349108225:=Nat.le_trans (Nat.mul_le_mul (Nat.le_sub_one_of_lt hv) (Nat.le_sub_one_of_lt hw)) zd
theorem iA {W z v w c s:Nat}(hV:V+c*P=U+W*w)(hs:18446744073709551616*c'+s=z+v*w+c):V+P*s+c'*(P*18446744073709551616)=U+P*z+(W+P*v)*w:=by
 have:P*(18446744073709551616*c'+s)=P*(z+v*w+c):=by rw [hs]
 rw [Nat.mul_add,Nat.mul_add,Nat.mul_add,←Nat.mul_assoc] at this
 rw [Nat.mul_comm c' (P*18446744073709551616),Nat.add_mul,Nat.mul_assoc P v w]
 rw [Nat.mul_comm c P] at hV
 omega
theorem eN (k:Nat){h:HF}{n cZ cX:Nat}{aX:Option Addr}{P X:List Nat}{w:Nat}(hb:b<3*n)(hrow:h b=some (.row (u64s (P++(Z++S))) e))(hcZ:Z.length≤cZ)(hZ:WdD Z)(hXs:Sl h n 1 (.slice aX l cX) (u64s X))(hX:WdD X)(ho:Off b (.slice aX l cX))(hl:Z.length=X.length)(hbig:X.length<1000000000)(hw:w<18446744073709551616):
  CF (cal (k+2)) 111 [.slice (some ⟨b,P.length,none⟩) Z.length cZ,.slice aX l cX,.int .u64 (w:Int)] h n fun v h' n' W=>∃(L:List Nat) (c:Nat),v=.int .u64 (c:Int)∧c<18446744073709551616∧RowW n h b e h' n' W (P++(L++S))∧WdD L∧L.length=Z.length∧wv L+c*18446744073709551616^Z.length=wv Z+wv X*w:=by
 refine pi (fn:=Tryz.f111) R4 ?_
 have hlX:=hXs.lenW
 subst hlX
 refine zN ?_
 repeat refine zR ?_
 refine zN ?_
 repeat refine zR ?_
 refine zN ?_
 repeat refine zR ?_
 refine zN ?_
 refine z8 (α:=List Nat×Nat) (fun z=>[(0,.slice (some ⟨b,P.length,none⟩) Z.length cZ),(2,.int .u64 (w:Int)),(7,.int .u64 (z.2:Int)),(14,.slice aX X.length cX),(15,.int .i64 (X.length:Int)),(16,.int .i64 (z.1.length:Int))])
  (fun z h' n' W=>n=n'∧(∀x∈W,x=b)∧ExtT n b h h'∧(W=[]→h'=h)∧h' b=some (.row (u64s (P++((z.1++Z.drop z.1.length)++S))) e)∧z.1.length≤X.length∧WdD z.1∧z.2<18446744073709551616∧wv z.1+z.2*18446744073709551616^z.1.length=wv (Z.take z.1.length)+wv (X.take z.1.length)*w) (fun z=>X.length-z.1.length)
  ([],0) ⟨rfl,rfl,rfl,rfl,rfl,rfl,trivial⟩ ⟨rfl,fun x hx=>absurd hx List.not_mem_nil,ExtT.refl _ _ _,fun _=>rfl,hrow,Nat.zero_le _,WdD.nil,by show (0:Nat)<_;decide,by simp [wv,dv]⟩ (by show X.length-0<LL;unfold LL;omega) ?_
 rintro ⟨D,c⟩ t h1 _ W ⟨rfl,hW,hx1,hw0,hr1,hD,hDd,hc,hV⟩
 simp only at hr1 hD hDd hc hV
 refine zN ?_
 by_cases hDX:D.length=X.length
 ·repeat refine zR ?_
  refine zN ?_
  rw [za rfl]
  refine zN ?_
  repeat refine zR ?_
  refine zN ?_
  have hZd:Z.drop D.length=[]:=by rw [hDX,←hl,List.drop_length]
  rw [hZd,List.append_nil] at hr1
  rw [hDX,List.take_length,←hl,List.take_length] at hV
  have hL:∃(L:List Nat) (c':Nat),Value.int .u64 (c:Int)=.int .u64 (c':Int)∧c'<18446744073709551616∧RowW n h b e h1 n W (P++(L++S))∧WdD L∧L.length=Z.length∧wv L+c'*18446744073709551616^Z.length=wv Z+wv X*w:=⟨D,c,rfl,hc,⟨hW,rfl,hx1,hr1⟩,hDd,zo,hV⟩
  refine ⟨rfl,[.int .u64 (c:Int)],rfl,hL,fun hw=>?_⟩
  have hw:W=[]:=hw
  subst hw
  rw [hw0 rfl] at hL
  exact hL
 obtain ⟨v,hv⟩:∃x,X[D.length]?=some x:=⟨X[D.length]'zo,List.getElem?_eq_getElem zo⟩
 obtain ⟨z,hz⟩:∃x,Z[D.length]?=some x:=⟨Z[D.length]'zo,List.getElem?_eq_getElem zo⟩
 have hvl:=hX.get hv
 have hzl:=hZ.get hz
 have hlen:(D++Z.drop D.length).length=Z.length:=by rw [List.length_append,List.length_drop];omega
 have hZs:=jD (cap:=cZ) hb hr1 zo
 rw [hlen] at hZs
 have hvw:=rh hvl hw
 repeat refine zR ?_
 refine zN ?_
 rw [ze rfl]
 refine zN ?_
 repeat refine zR ?_
 refine yp (f:=fun d:Nat=>Value.int .u64 (d:Int)) (j:=D.length) R7 (hXs.extW hx1 ho) R2 hv (fun _=>rfl) R4 fun _=>?_
 repeat refine zR ?_
 refine zN ?_
 repeat refine zR ?_
 refine ya _ R5 (rP k h1 n hvl hw) ?_
 rintro _ rfl
 obtain ⟨p,hp⟩:∃p,p=v*w:=⟨_,rfl⟩
 rw [←hp] at hvw ⊢
 obtain ⟨hi,hhi⟩:∃x,x=p/18446744073709551616:=⟨_,rfl⟩
 obtain ⟨lo,hlo⟩:∃x,x=p%18446744073709551616:=⟨_,rfl⟩
 rw [←hhi,←hlo]
 repeat refine zR ?_
 refine zN ?_
 repeat refine zR ?_
 refine vy (x:=lo) (y:=c) (c:=0) R5 zd ?_
 obtain ⟨s1,hs1⟩:∃x,x=(lo+c+0)%18446744073709551616:=⟨_,rfl⟩
 obtain ⟨c1,hc1⟩:∃x,x=(lo+c+0)/18446744073709551616:=⟨_,rfl⟩
 rw [←hs1,←hc1]
 repeat refine zR ?_
 refine zN ?_
 refine zM ?_
 refine zM ?_
 refine yA (a:=hi) (b:=c1) R6 zo ?_
 repeat refine zR ?_
 refine zN ?_
 repeat refine zR ?_
 refine yp (f:=fun d:Nat=>Value.int .u64 (d:Int)) (j:=D.length) R7 hZs R2 (vE hz) (fun _=>rfl) R4 fun _=>?_
 repeat refine zR ?_
 refine vy (x:=z) (y:=s1) (c:=0) R5 zd ?_
 obtain ⟨s2,hs2⟩:∃x,x=(z+s1+0)%18446744073709551616:=⟨_,rfl⟩
 obtain ⟨c2,hc2⟩:∃x,x=(z+s1+0)/18446744073709551616:=⟨_,rfl⟩
 rw [←hs2,←hc2]
 repeat refine zR ?_
 refine yn (j:=D.length) (off:=P.length) (v:=.int .u64 (s2:Int)) R8 rfl ⟨zo,by rw [zF,List.length_append,List.length_append,hlen];omega⟩ hr1 hb (fun _=>rfl) R3 (fun _=>rfl) rfl fun _=>?_
 rw [ye,oj _ hz]
 repeat refine zR ?_
 refine zN ?_
 refine zM ?_
 refine zM ?_
 refine yA (a:=hi+c1) (b:=c2) R6 zo ?_
 repeat refine zR ?_
 refine zN ?_
 repeat refine zR ?_
 refine zN ?_
 refine goOn (D++[s2],hi+c1+c2) (by show X.length-(D++[s2]).length<X.length-D.length;rw [List.length_append,List.length_singleton];omega) ⟨rfl,rfl,rfl,rfl,rfl,by show Value.int .i64 _=Value.int .i64 _;rw [List.length_append];rfl,trivial⟩ ⟨rfl,fun x hx=>by
  rcases List.mem_cons.1 hx with rfl|hx
  ·rfl
  ·exact hW x hx,fun y hy hyb=>(zj hyb).trans (hx1 y hy hyb),fun h=>(by cases h),zg _ _ _,by show (D++[s2]).length≤_;rw [List.length_append,List.length_singleton];omega,WdD.snoc hDd zo,by show hi+c1+c2<_;omega,?_⟩
 simp only
 rw [List.length_append,List.length_singleton,yH,zC hv,zC hz,Nat.pow_succ]
 exact iA hV (by rw [←hp];omega)
theorem fG {P X:List Nat}{w c:Nat}(hL:L.length=Z.length)(hV:wv L+c*18446744073709551616^Z.length=wv Z+wv X*w):wv (P++(L++[c]))=wv (P++Z)+wv X*(18446744073709551616^P.length*w):=by
 rw [vU,vU P Z,yH,hL,Nat.mul_comm _ c,hV,Nat.mul_add,Nat.mul_left_comm]
 omega
theorem kv (k:Nat){h:HF}{n:Nat}(hA:Sl h n 1 (.slice a1 l1 c1) (u64s A))(hC:Sl h n 1 (.slice a2 l2 c2) (u64s C))(nA:NW A)(nC:NW C)(hb:A.length<100000000∧C.length<100000000)(h40:A.length<40∨C.length<40):
  CF (cal (k+3)) 81 [.slice a1 l1 c1,.slice a2 l2 c2] h n fun v h' n' w=>∃L,ResW n h v h' n' w L∧wv L=wv A*wv C∧zgo n v (.slice a1 l1 c1) (.slice a2 l2 c2):=by
 refine zv (fn:=Tryz.f81) R4 ?_
 have e1:=hA.lenW
 have e2:=hC.lenW
 subst e1 e2
 refine zN ?_
 repeat refine zR ?_
 refine zN ?_
 refine zM ?_
 refine st_I (ik:=.i64) (a:=(A.length:Int)) R5 ?_
 refine zM ?_
 refine st_I (ik:=.i64) (a:=(C.length:Int)) R5 ?_
 refine pY R6 ?_
 simp only [yE,xE,zK,xz]
 refine yP (α:=(Option Addr×Nat×List Nat)×(Option Addr×Nat×List Nat)) (fun z=>[(0,.slice z.1.1 z.1.2.2.length z.1.2.1),(1,.slice z.2.1 z.2.2.2.length z.2.2.1)]) (fun z h' n' w=>h=h'∧n=n'∧w=[]∧Sl h n 1 (.slice z.1.1 z.1.2.2.length z.1.2.1) (u64s z.1.2.2)∧Sl h n 1 (.slice z.2.1 z.2.2.2.length z.2.2.1) (u64s z.2.2.2)∧NW z.1.2.2∧NW z.2.2.2∧z.2.2.2.length≤z.1.2.2.length∧z.2.2.2.length<40∧z.1.2.2.length<100000000∧wv z.1.2.2*wv z.2.2.2=wv A*wv C∧(Value.slice z.1.1 z.1.2.2.length z.1.2.1=.slice a1 A.length c1∨Value.slice z.1.1 z.1.2.2.length z.1.2.1=.slice a2 C.length c2)) ?_ ?_
 ·by_cases hlt:A.length<C.length
  ·rw [ze (by show Value.bool _=_;rw [decide_eq_true zo])]
   refine zN ?_
   repeat refine zR ?_
   refine zN ?_
   exact zS ((a2,c2,C),(a1,c1,A)) ⟨rfl,rfl,trivial⟩ ⟨rfl,rfl,rfl,hC,hA,nC,nA,by show A.length≤C.length;omega,by show A.length<40;omega,hb.2,Nat.mul_comm _ _,.inr rfl⟩
  rw [za (by show Value.bool _=_;rw [decide_eq_false zo])]
  refine zN ?_
  exact zS ((a1,c1,A),(a2,c2,C)) ⟨rfl,rfl,trivial⟩ ⟨rfl,rfl,rfl,hA,hC,nA,nC,by show C.length≤A.length;omega,by show C.length<40;omega,hb.1,rfl,.inl rfl⟩
 rintro ⟨⟨a,c,X⟩,⟨a',c',Y⟩⟩ t _ _ _ ⟨rfl,rfl,rfl,hX,hY,nX,nY,hYX,hY40,hXl,hprod,hv⟩
 simp only at hX hY nX nY hYX hY40 hXl hprod hv
 rw [←hprod]
 clear hprod h40 hb hA hC nA nC
 refine zN ?_
 refine zM ?_
 refine st_I (ik:=.i64) (a:=(X.length:Int)) R5 ?_
 refine vP (a:=(X.length:Int)) (b:=1) R6 zo ?_
 refine st_I (ik:=.i64) (a:=((X.length:Int)+1).tdiv 2) ⟨rfl,rfl,rfl,rfl,(by show some (Value.int .i64 (IntKind.wrap .i64 _))=_;rw [yQ (by have:=Int.tdiv_nonneg (a:=(X.length:Int)+1) (b:=2) zo zo;have:=Int.tdiv_le_self (a:=(X.length:Int)+1) (b:=2) zo;omega)])⟩ ?_
 repeat refine zR ?_
 refine zN ?_
 by_cases hY0:Y.length=0
 ·repeat refine zR ?_
  refine zN ?_
  rw [ze rfl]
  refine zN ?_
  repeat refine zR ?_
  refine zN ?_
  exact retH _ ⟨rfl,(zi rfl),rfl⟩ ⟨[],⟨rfl,Nat.le_refl _,Ext.refl _ _,.nil (.inl rfl),NW.nil⟩,by rw [List.length_eq_zero_iff.1 hY0];rfl,.inl trivial⟩
 repeat refine zR ?_
 refine zN ?_
 rw [za rfl]
 simp only [yE,xE,zK,xz]
 refine yP (α:=Bool) (fun z=>[(0,.slice a X.length c),(1,.slice a' Y.length c'),(32,.bool z)]) (fun z h' n' w=>h=h'∧n=n'∧w=[]∧(z=true→wv Y=1)) ?_ ?_
 ·by_cases hY1:Y.length=1
  ·obtain ⟨y,rfl⟩:=List.length_eq_one_iff.1 hY1
   rw [show [y].length=1 from rfl] at hY ⊢
   refine zN ?_
   repeat refine zR ?_
   refine yp (f:=fun d:Nat=>Value.int .u64 (d:Int)) (l:=[y]) (j:=0) R7 hY ⟨rfl,(by simp)⟩ rfl (fun _=>rfl) R4 fun _=>?_
   by_cases hy:y=1
   ·repeat refine zR ?_
    refine zN ?_
    exact zS true ⟨rfl,rfl,rfl,trivial⟩ ⟨rfl,rfl,rfl,fun _=>by rw [sY,hy]⟩
   repeat refine zR ?_
   refine zN ?_
   exact zS false ⟨rfl,rfl,rfl,trivial⟩ ⟨rfl,rfl,rfl,fun h=>by cases h⟩
  refine zN ?_
  repeat refine zR ?_
  refine zN ?_
  exact zS false ⟨rfl,rfl,rfl,trivial⟩ ⟨rfl,rfl,rfl,fun h=>by cases h⟩
 rintro z t _ _ _ ⟨rfl,rfl,rfl,hz⟩
 cases z with
 |true=>
  rw [ze rfl]
  refine zN ?_
  repeat refine zR ?_
  refine zN ?_
  exact retH _ ⟨rfl,(zi rfl),rfl⟩ ⟨X,⟨rfl,Nat.le_refl _,Ext.refl _ _,hX,nX⟩,by rw [hz rfl,Nat.mul_one],.inr hv⟩
 |false=>
 rw [za rfl]
 clear hz
 refine zN ?_
 repeat refine zR ?_
 refine zN ?_
 rw [ze rfl]
 refine zN ?_
 repeat refine zR ?_
 refine vv (len:=X.length+Y.length) (cap:=X.length+Y.length) R9 zo ?_
 rw [show zl (Value.int .u64 0)=[Value.int .u64 0] from rfl,xJ]
 generalize hh:upd h (3*n+2) _=h1
 have hr1:∃e,h1 (3*n+2)=some (.row (u64s (List.replicate X.length 0++List.replicate Y.length 0)) e):=⟨_,by rw [←hh,zg,List.replicate_append_replicate]⟩
 obtain ⟨e,hr1⟩:=hr1
 have hx1:Ext n h h1:=by rw [←hh];exact Ext.upd zo
 clear hh
 repeat refine zR ?_
 refine zN ?_
 repeat refine zR ?_
 refine zN ?_
 refine z8 (α:=Nat×List Nat) (fun z=>[(0,.slice a X.length c),(6,.slice (some ⟨3*n+2,0,none⟩) (X.length+Y.length) (X.length+Y.length)),(53,.slice a' Y.length c'),(54,.int .i64 (Y.length:Int)),(55,.int .i64 (z.1:Int))])
  (fun z h' n' w=>n'=n+1∧w=[]∧Ext n h h'∧h' (3*n+2)=some (.row (u64s (z.2++List.replicate (Y.length-z.1) 0)) e)∧z.2.length=X.length+z.1∧WdD z.2∧z.1≤Y.length∧wv z.2=wv X*wv (Y.take z.1)) (fun z=>Y.length-z.1)
  (0,List.replicate X.length 0) ⟨rfl,rfl,rfl,rfl,rfl,trivial⟩ ⟨rfl,rfl,hx1,hr1,by simp,WdD.zeros _,Nat.zero_le _,by simp [wv,dv,rn]⟩ (by show Y.length-0<LL;unfold LL;omega) ?_
 clear hr1 hx1
 rintro ⟨i,D⟩ t h1 _ _ ⟨rfl,rfl,hx1,hr1,hDl,hDd,hi,hV⟩
 simp only at hr1 hDl hDd hi hV
 refine zN ?_
 by_cases hiY:i=Y.length
 ·subst hiY
  rw [Nat.sub_self,List.replicate_zero,List.append_nil] at hr1
  rw [List.take_length] at hV
  repeat refine zR ?_
  refine zN ?_
  rw [za rfl]
  refine zN ?_
  repeat refine zR ?_
  have htr:=xB (k+1) (h:=h1) (n:=n+1) (a:=some ⟨3*n+2,0,none⟩) (len:=X.length+Y.length) (cap:=X.length+Y.length) (l:=D) zo (fun _ e=>by injection e with e;rw [←e]) (xm zo hr1 hDl)
  refine zw _ R5 htr ?_
  rintro _ _ _ _ ⟨rfl,rfl,rfl,rfl,hs⟩
  repeat refine zR ?_
  refine zN ?_
  obtain ⟨t1,t2⟩:=wk hDd
  exact retH _ ⟨rfl,(zi rfl),rfl⟩ ⟨_,⟨rfl,Nat.le_succ n,hx1,hs,t1⟩,by rw [t2,hV],.inl (by show 3*n≤3*n+2;omega)⟩
 obtain ⟨w,hw⟩:∃x,Y[i]?=some x:=⟨Y[i]'zo,List.getElem?_eq_getElem zo⟩
 have hwl:=nY.1.get hw
 obtain ⟨P,Z,hPZ,hP,hZ⟩:∃P Z,D=P++Z∧P.length=i∧Z.length=X.length:=⟨D.take i,D.drop i,(List.take_append_drop i D).symm,by rw [List.length_take];omega,by rw [List.length_drop];omega⟩
 subst hPZ hP
 rw [List.append_assoc] at hr1
 have hX1:=hX.ext hx1 (Nat.le_succ n)
 repeat refine zR ?_
 refine zN ?_
 rw [ze rfl]
 refine zN ?_
 repeat refine zR ?_
 refine yp (f:=fun d:Nat=>Value.int .u64 (d:Int)) (j:=P.length) R7 (hY.ext hx1 (Nat.le_succ n)) R2 hw (fun _=>rfl) R4 fun _=>?_
 repeat refine zR ?_
 refine zN ?_
 repeat refine zR ?_
 refine qf P.length (P.length+X.length) R9 rfl rfl zo ?_
 rw [show 0+P.length*1=P.length from zo,show P.length+X.length-P.length=Z.length from zo]
 repeat refine zR ?_
 refine zw _ R5 (eN k (n:=n+1) (b:=3*n+2) zo hr1 zo (fun d hd=>hDd d (by simp [hd])) hX1 nX.1 (hX.below.off zo) hZ zo hwl) ?_
 rintro _ h2 _ w2 ⟨L,cc,rfl,hcc,⟨hw2,rfl,hx2,hr2⟩,hLd,hLl,hLv⟩
 try simp only [tU]
 rw [z6 (w:=[]) fun y hy=>by rw [hw2 y hy];show 3*n≤3*n+2;omega]
 obtain ⟨m,hm⟩:∃m,Y.length-P.length=m+1:=⟨Y.length-P.length-1,zo⟩
 rw [hm,←List.append_assoc] at hr2
 have hPL:(P++L).length=P.length+X.length:=by rw [List.length_append,hLl,hZ]
 refine vO (j:=P.length+X.length) (v:=.int .u64 (cc:Int)) R8 rfl ⟨zo,by rw [zF,List.length_append,hPL,List.length_replicate];omega⟩ hr2 (by show 3*n≤3*n+2;omega) (fun _=>rfl) R3 (fun _=>rfl) rfl fun _=>?_
 rw [ye,←hPL,jT]
 repeat refine zR ?_
 refine zN ?_
 repeat refine zR ?_
 refine zN ?_
 refine goOn (P.length+1,P++(L++[cc])) (by show Y.length-(P.length+1)<Y.length-P.length;omega) ⟨rfl,rfl,rfl,rfl,rfl,trivial⟩ ⟨rfl,rfl,fun b hb=>(zj zo).trans ((hx2 b zo zo).trans (hx1 b hb)),?_,?_,?_,by show P.length+1≤_;omega,?_⟩
 ·refine (zg _ _ _).trans ?_
  simp only
  rw [show Y.length-(P.length+1)=m from zo,List.append_assoc P L]
 ·simp only
  rw [List.length_append,List.length_append,hLl,hZ,List.length_singleton]
  omega
 ·exact WdD.append (fun d hd=>hDd d (by simp [hd])) (WdD.snoc hLd hcc)
 simp only
 rw [fG hLl hLv,hV,zC hw,Nat.mul_add]
end
section
theorem cI {P V U W z v w c s c':Nat}(hV:V+W*w=U+c*P)(hs:s+v*w+c=z+18446744073709551616*c'):V+P*s+(W+P*v)*w=U+P*z+c'*(P*18446744073709551616):=by
 have:P*(s+v*w+c)=P*(z+18446744073709551616*c'):=by rw [hs]
 rw [Nat.mul_add,Nat.mul_add,Nat.mul_add,←Nat.mul_assoc P 18446744073709551616] at this
 rw [Nat.mul_comm c' (P*18446744073709551616),Nat.add_mul,Nat.mul_assoc P v w]
 rw [Nat.mul_comm c P] at hV
 omega
theorem fd (k:Nat){h:HF}{n b cZ cX l:Nat}{aX:Option Addr}{P Z S X:List Nat}{e:TypeId}{w:Nat}(hb:b<3*n)(hrow:h b=some (.row (u64s (P++(Z++S))) e))(hcZ:Z.length≤cZ)(hZ:WdD Z)(hXs:Sl h n 1 (.slice aX l cX) (u64s X))(hX:WdD X)(ho:Off b (.slice aX l cX))(hl:Z.length=X.length)(hbig:X.length<1000000000)(hw:w<18446744073709551616):
  CF (cal (k+2)) 154 [.slice (some ⟨b,P.length,none⟩) Z.length cZ,.slice aX l cX,.int .u64 (w:Int)] h n fun v h' n' W=>∃(L:List Nat) (c:Nat),v=.int .u64 (c:Int)∧c<18446744073709551616∧RowW n h b e h' n' W (P++(L++S))∧WdD L∧L.length=Z.length∧wv L+wv X*w=wv Z+c*18446744073709551616^Z.length:=by
 refine pi (fn:=Tryz.f154) R4 ?_
 have hlX:=hXs.lenW
 subst hlX
 refine zN ?_
 repeat refine zR ?_
 refine zN ?_
 repeat refine zR ?_
 refine zN ?_
 repeat refine zR ?_
 refine zN ?_
 refine z8 (α:=List Nat×Nat) (fun z=>[(0,.slice (some ⟨b,P.length,none⟩) Z.length cZ),(2,.int .u64 (w:Int)),(7,.int .u64 (z.2:Int)),(14,.slice aX X.length cX),(15,.int .i64 (X.length:Int)),(16,.int .i64 (z.1.length:Int))])
  (fun z h' n' W=>n=n'∧(∀x∈W,x=b)∧ExtT n b h h'∧(W=[]→h'=h)∧h' b=some (.row (u64s (P++((z.1++Z.drop z.1.length)++S))) e)∧z.1.length≤X.length∧WdD z.1∧z.2<18446744073709551616∧wv z.1+wv (X.take z.1.length)*w=wv (Z.take z.1.length)+z.2*18446744073709551616^z.1.length) (fun z=>X.length-z.1.length)
  ([],0) ⟨rfl,rfl,rfl,rfl,rfl,rfl,trivial⟩ ⟨rfl,fun x hx=>absurd hx List.not_mem_nil,ExtT.refl _ _ _,fun _=>rfl,hrow,Nat.zero_le _,WdD.nil,by show (0:Nat)<_;decide,by simp [wv,dv]⟩ (by show X.length-0<LL;unfold LL;omega) ?_
 rintro ⟨D,c⟩ t h1 _ W ⟨rfl,hW,hx1,hw0,hr1,hD,hDd,hc,hV⟩
 simp only at hr1 hD hDd hc hV
 refine zN ?_
 by_cases hDX:D.length=X.length
 ·repeat refine zR ?_
  refine zN ?_
  rw [za rfl]
  refine zN ?_
  repeat refine zR ?_
  refine zN ?_
  have hZd:Z.drop D.length=[]:=by rw [hDX,←hl,List.drop_length]
  rw [hZd,List.append_nil] at hr1
  rw [hDX,List.take_length,←hl,List.take_length] at hV
  have hL:∃(L:List Nat) (c':Nat),Value.int .u64 (c:Int)=.int .u64 (c':Int)∧c'<18446744073709551616∧RowW n h b e h1 n W (P++(L++S))∧WdD L∧L.length=Z.length∧wv L+wv X*w=wv Z+c'*18446744073709551616^Z.length:=⟨D,c,rfl,hc,⟨hW,rfl,hx1,hr1⟩,hDd,zo,hV⟩
  refine ⟨rfl,[.int .u64 (c:Int)],rfl,hL,fun hw=>?_⟩
  have hw:W=[]:=hw
  subst hw
  rw [hw0 rfl] at hL
  exact hL
 obtain ⟨v,hv⟩:∃x,X[D.length]?=some x:=⟨X[D.length]'zo,List.getElem?_eq_getElem zo⟩
 obtain ⟨z,hz⟩:∃x,Z[D.length]?=some x:=⟨Z[D.length]'zo,List.getElem?_eq_getElem zo⟩
 have hvl:=hX.get hv
 have hzl:=hZ.get hz
 have hlen:(D++Z.drop D.length).length=Z.length:=by rw [List.length_append,List.length_drop];omega
 have hZs:=jD (cap:=cZ) hb hr1 zo
 rw [hlen] at hZs
 have hvw:=rh hvl hw
 repeat refine zR ?_
 refine zN ?_
 rw [ze rfl]
 refine zN ?_
 repeat refine zR ?_
 refine yp (f:=fun d:Nat=>Value.int .u64 (d:Int)) (j:=D.length) R7 (hXs.extW hx1 ho) R2 hv (fun _=>rfl) R4 fun _=>?_
 repeat refine zR ?_
 refine zN ?_
 repeat refine zR ?_
 refine ya _ R5 (rP k h1 n hvl hw) ?_
 rintro _ rfl
 obtain ⟨p,hp⟩:∃p,p=v*w:=⟨_,rfl⟩
 rw [←hp] at hvw ⊢
 obtain ⟨hi,hhi⟩:∃x,x=p/18446744073709551616:=⟨_,rfl⟩
 obtain ⟨lo,hlo⟩:∃x,x=p%18446744073709551616:=⟨_,rfl⟩
 rw [←hhi,←hlo]
 repeat refine zR ?_
 refine zN ?_
 repeat refine zR ?_
 refine vy (x:=lo) (y:=c) (c:=0) R5 zd ?_
 obtain ⟨s1,hs1⟩:∃x,x=(lo+c+0)%18446744073709551616:=⟨_,rfl⟩
 obtain ⟨c1,hc1⟩:∃x,x=(lo+c+0)/18446744073709551616:=⟨_,rfl⟩
 rw [←hs1,←hc1]
 repeat refine zR ?_
 refine zN ?_
 refine zM ?_
 refine zM ?_
 refine yA (a:=hi) (b:=c1) R6 zo ?_
 repeat refine zR ?_
 refine zN ?_
 repeat refine zR ?_
 refine yp (f:=fun d:Nat=>Value.int .u64 (d:Int)) (j:=D.length) R7 hZs R2 (vE hz) (fun _=>rfl) R4 fun _=>?_
 repeat refine zR ?_
 refine tw (x:=z) (y:=s1) (c:=0) R5 zd ?_
 obtain ⟨s2,hs2⟩:∃x,x=(z+18446744073709551616-s1-0)%18446744073709551616:=⟨_,rfl⟩
 obtain ⟨c2,hc2⟩:∃x,x=(if s1+0≤z then 0 else 1):=⟨_,rfl⟩
 rw [←hs2,←hc2]
 have hs1l:s1<18446744073709551616:=zo
 have hsc:=w9 (c:=0) hzl hs1l zd
 rw [←hs2,←hc2] at hsc
 have hc2l:c2≤1:=by rw [hc2];split<;>decide
 have hs2l:s2<18446744073709551616:=by rw [hs2];exact Nat.mod_lt _ zd
 clear hs2 hc2
 repeat refine zR ?_
 refine yn (j:=D.length) (off:=P.length) (v:=.int .u64 (s2:Int)) R8 rfl ⟨zo,by rw [zF,List.length_append,List.length_append,hlen];omega⟩ hr1 hb (fun _=>rfl) R3 (fun _=>rfl) rfl fun _=>?_
 rw [ye,oj _ hz]
 repeat refine zR ?_
 refine zN ?_
 refine zM ?_
 refine zM ?_
 refine yA (a:=hi+c1) (b:=c2) R6 zo ?_
 repeat refine zR ?_
 refine zN ?_
 repeat refine zR ?_
 refine zN ?_
 refine goOn (D++[s2],hi+c1+c2) (by show X.length-(D++[s2]).length<X.length-D.length;rw [List.length_append,List.length_singleton];omega) ⟨rfl,rfl,rfl,rfl,rfl,by show Value.int .i64 _=Value.int .i64 _;rw [List.length_append];rfl,trivial⟩ ⟨rfl,fun x hx=>by
  rcases List.mem_cons.1 hx with rfl|hx
  ·rfl
  ·exact hW x hx,fun y hy hyb=>(zj hyb).trans (hx1 y hy hyb),fun h=>(by cases h),zg _ _ _,by show (D++[s2]).length≤_;rw [List.length_append,List.length_singleton];omega,WdD.snoc hDd zo,by show hi+c1+c2<_;omega,?_⟩
 simp only
 rw [List.length_append,List.length_singleton,yH,zC hv,zC hz,Nat.pow_succ]
 exact cI hV (by rw [←hp];omega)
theorem zfr {B v1 v2 vr w1 w2 wr P:Nat}(hB:2≤B)(hn:B≤2*v1)(hv2:v2<B)(hvr:vr<P)(hw2:w2<B):B-1≤(((v1*B+w1)*B+w2)*P+wr)/((v1*B+v2)*P+vr)+1:=by
 have hP:0<P:=zo
 have hV:0<(v1*B+v2)*P+vr:=by
  have:1*1≤v1*B:=Nat.mul_le_mul zo zo
  have:1*1≤(v1*B+v2)*P:=Nat.mul_le_mul zo hP
  omega
 obtain ⟨D,rfl⟩:∃D,B=D+2:=⟨B-2,zo⟩
 have key:D≤(((v1*(D+2)+w1)*(D+2)+w2)*P+wr)/((v1*(D+2)+v2)*P+vr):=by
  rw [Nat.le_div_iff_mul_le hV]
  have h1:(v1*(D+2)+v2)*P+vr≤(v1*(D+2)+v2+1)*P:=by rw [Nat.add_mul _ 1];omega
  refine Nat.le_trans (Nat.mul_le_mul_left D h1) ?_
  rw [←Nat.mul_assoc]
  have h2:D*(v1*(D+2)+v2+1)≤v1*(D+2)*(D+2):=by
   have e1:D*(v1*(D+2)+v2+1)=D*(v1*(D+2))+D*(v2+1):=by rw [Nat.add_assoc,Nat.mul_add]
   have e2:v1*(D+2)*(D+2)=v1*(D+2)*D+v1*(D+2)*2:=Nat.mul_add _ _ _
   have e3:D*(v2+1)≤D*(D+2):=Nat.mul_le_mul_left _ hv2
   have e4:(D+2)*(D+2)≤2*v1*(D+2):=Nat.mul_le_mul_right _ hn
   have e5:D*(D+2)≤(D+2)*(D+2):=Nat.mul_le_mul_right _ zo
   have e6:2*v1*(D+2)=v1*(D+2)*2:=by rw [Nat.mul_assoc,Nat.mul_comm 2]
   rw [e1,e2,Nat.mul_comm D (v1*(D+2))]
   omega
  have h3:=Nat.mul_le_mul_right P h2
  have h4:v1*(D+2)*(D+2)*P≤((v1*(D+2)+w1)*(D+2)+w2)*P:=Nat.mul_le_mul_right P (by rw [Nat.add_mul];omega)
  omega
 omega
structure WinD (W V:List Nat)(m:Nat):Prop where
 wl:W.length=m+3
 vl:V.length=m+2
 wd:WdD W
 vd:WdD V
 top:∀x,V[m+1]?=some x→9223372036854775808≤x
 lt:wv W<18446744073709551616*wv V
theorem kY (k:Nat){h:HF}{n:Nat}{a1 a2:Option Addr}{l1 c1 l2 c2 m:Nat}{W V:List Nat}(hW:Sl h n 1 (.slice a1 l1 c1) (u64s W))(hV:Sl h n 1 (.slice a2 l2 c2) (u64s V))(hD:WinD W V m)(hb:m<1000000000):
  VF (cal (k+4)) 153 [.slice a1 l1 c1,.slice a2 l2 c2] h n fun v=>∃q:Nat,v=.int .u64 (q:Int)∧q<18446744073709551616∧wv W/wv V≤q∧q≤wv W/wv V+1:=by
 refine zB (fn:=Tryz.f153) R4 ?_
 have e1:=hW.lenW
 have e2:=hV.lenW
 subst e1 e2
 obtain ⟨wl,vl,wd,vd,htop,hlt⟩:=hD
 rw [wl] at hW ⊢
 rw [vl] at hV ⊢
 obtain ⟨v1,hv1⟩:∃x,V[m+1]?=some x:=⟨V[m+1]'zo,List.getElem?_eq_getElem zo⟩
 obtain ⟨v2,hv2⟩:∃x,V[m]?=some x:=⟨V[m]'zo,List.getElem?_eq_getElem zo⟩
 obtain ⟨w0,hw0⟩:∃x,W[m+2]?=some x:=⟨W[m+2]'zo,List.getElem?_eq_getElem zo⟩
 obtain ⟨w1,hw1⟩:∃x,W[m+1]?=some x:=⟨W[m+1]'zo,List.getElem?_eq_getElem zo⟩
 obtain ⟨w2,hw2⟩:∃x,W[m]?=some x:=⟨W[m]'zo,List.getElem?_eq_getElem zo⟩
 have hn:=htop v1 hv1
 have lv1:=vd.get hv1
 have lv2:=vd.get hv2
 have lw0:=wd.get hw0
 have lw1:=wd.get hw1
 have lw2:=wd.get hw2
 have eW:wv W=((w0*18446744073709551616+w1)*18446744073709551616+w2)*18446744073709551616^m+wv (W.take m):=zcc wl hw0 hw1 hw2
 have eV:wv V=(v1*18446744073709551616+v2)*18446744073709551616^m+wv (V.take m):=zd6 vl hv1 hv2
 have hwr:wv (W.take m)<18446744073709551616^m:=by
  have:=ws (wd.take m)
  rw [List.length_take,Nat.min_eq_left zo] at this
  exact this
 have hvr:wv (V.take m)<18446744073709551616^m:=by
  have:=ws (vd.take m)
  rw [List.length_take,Nat.min_eq_left zo] at this
  exact this
 rw [eW,eV] at hlt ⊢
 generalize 18446744073709551616^m=P at*
 generalize wv (W.take m)=wr at*
 generalize wv (V.take m)=vr at*
 clear eW eV
 have htv:=zhv hvr lv2 hlt
 obtain ⟨top,ht⟩:∃t,t=w0*18446744073709551616+w1:=⟨_,rfl⟩
 rw [←ht] at hlt htv ⊢
 have hqlt:((top*18446744073709551616+w2)*P+wr)/((v1*18446744073709551616+v2)*P+vr)<18446744073709551616:=by
  rw [Nat.div_lt_iff_lt_mul zo]
  exact hlt
 refine zN ?_
 repeat refine zR ?_
 refine zN ?_
 repeat refine zR ?_
 refine zN ?_
 rw [xF rfl]
 repeat refine zR ?_
 refine yp (f:=fun d:Nat=>Value.int .u64 (d:Int)) (j:=m+1) R7 hV ⟨rfl,zo⟩ hv1 (fun _=>rfl) R4 fun _=>?_
 repeat refine zR ?_
 refine yp (f:=fun d:Nat=>Value.int .u64 (d:Int)) (j:=m) R7 hV ⟨rfl,zo⟩ hv2 (fun _=>rfl) R4 fun _=>?_
 repeat refine zR ?_
 refine zN ?_
 repeat refine zR ?_
 refine yp (f:=fun d:Nat=>Value.int .u64 (d:Int)) (j:=m+2) R7 hW ⟨rfl,zo⟩ hw0 (fun _=>rfl) R4 fun _=>?_
 by_cases hfull:v1≤w0
 ·repeat refine zR ?_
  refine zN ?_
  rw [ze rfl]
  refine zN ?_
  repeat refine zR ?_
  refine zN ?_
  have h0:w0=v1:=zo
  subst h0
  refine retF _ rfl (zi rfl) R2 ⟨18446744073709551615,rfl,by decide,zo,?_⟩
  rw [ht]
  exact zfr (B:=18446744073709551616) zd zo lv2 hvr lw2
 repeat refine zR ?_
 refine zN ?_
 rw [za rfl]
 refine zN ?_
 refine zu [0,0,3,7,0,0,32,112,240,0,1023,2047,4095,4095,8191,32767] rfl ?_
 obtain ⟨b1,o1,x1,cs1,rfl,hb1,hx1,hcs1,hcap1,hle1,hc1⟩:=hW.inv zo
 have hcell:∀{j x:Nat},W[j]?=some x→cs1[o1+j]?=some (.int .u64 (x:Int)):=fun hj=>sO hc1 (by rw [u64s,List.getElem?_map,hj];rfl)
 repeat refine zE ?_
 refine iV R8 zo ?_
 refine z9 R6 (zU rfl hx1 (v:=.int .u64 (w0:Int)) ⟨hcs1,(by rw [←hcell hw0];congr 1;omega)⟩) R2 ?_
 repeat refine zE ?_
 refine iV R8 zo ?_
 refine z9 R6 (zU rfl hx1 (v:=.int .u64 (w1:Int)) ⟨hcs1,(by rw [←hcell hw1];congr 1;omega)⟩) R2 ?_
 repeat refine zE ?_
 refine ja _ R7 (rT k h n (show w0<v1 by omega) lw1 lv1) ?_
 rintro _ rfl
 rw [←ht]
 repeat refine zE ?_
 refine zN ?_
 have hstart:=oI (B:=18446744073709551616) (v1:=v1) (v2:=v2) (vr:=vr) (top:=top) (w2:=w2) (wr:=wr) (P:=P) zo lw2 hwr
 have hdm:top/v1*v1+top%v1=top:=by rw [Nat.mul_comm];exact Nat.div_add_mod _ _
 have hd0:top/v1<18446744073709551616:=by
  rw [Nat.div_lt_iff_lt_mul zo,ht]
  have:(w0+1)*18446744073709551616≤v1*18446744073709551616:=Nat.mul_le_mul_right _ zo
  rw [Nat.mul_comm 18446744073709551616]
  omega
 refine z8 (α:=Nat×Nat) (fun z=>[(0,.slice (some ⟨b1,o1,none⟩) (m+3) c1),(5,.int .i64 ((m+2:Nat):Int)),(6,.int .u64 (v1:Int)),(7,.int .u64 (v2:Int)),(8,.int .u64 (z.1:Int)),(9,.int .u64 (z.2:Int))])
  (fun z h' n' w=>h=h'∧n=n'∧w=[]∧z.1<18446744073709551616∧z.2<18446744073709551616∧z.1*v1+z.2=top∧((top*18446744073709551616+w2)*P+wr)/((v1*18446744073709551616+v2)*P+vr)≤z.1) (fun z=>2-z.2/9223372036854775808)
  (top/v1,top%v1) ⟨rfl,rfl,rfl,rfl,rfl,rfl,trivial⟩ ⟨rfl,rfl,rfl,hd0,Nat.lt_trans (Nat.mod_lt _ zo) lv1,hdm,hstart⟩ (by show 2-top%v1/9223372036854775808<LL;unfold LL;omega) ?_
 rintro ⟨q,r⟩ t _ _ _ ⟨rfl,rfl,rfl,hq,hr,hqr,hle⟩
 simp only at hq hr hqr hle
 refine zN ?_
 refine zM ?_
 refine zM ?_
 refine ya _ R5 (rP (k+2) h n hq lv2) ?_
 rintro _ rfl
 obtain ⟨p,hp⟩:∃p,p=q*v2:=⟨_,rfl⟩
 have hpl:=rh hq lv2
 rw [←hp] at hpl ⊢
 have fin:∀t':TF,t' 4=.int .u64 (q:Int)→p≤r*18446744073709551616+w2→∃q':Nat,Value.int .u64 (q:Int)=.int .u64 (q':Int)∧q'<18446744073709551616∧((top*18446744073709551616+w2)*P+wr)/((v1*18446744073709551616+v2)*P+vr)≤q'∧q'≤((top*18446744073709551616+w2)*P+wr)/((v1*18446744073709551616+v2)*P+vr)+1:=fun _ _ hc=>
  ⟨q,rfl,hq,hle,zd2 zo zd hvr hqr (by rw [←hp];exact hc) hq⟩
 obtain ⟨hi,hhi⟩:∃x,x=p/18446744073709551616:=⟨_,rfl⟩
 obtain ⟨lo,hlo⟩:∃x,x=p%18446744073709551616:=⟨_,rfl⟩
 rw [←hhi,←hlo]
 have hpe:p=hi*18446744073709551616+lo:=zo
 repeat refine zR ?_
 simp only [yE,xE,zK,xz]
 by_cases hc1:hi<r
 ·refine zN ?_
  repeat refine zR ?_
  refine zN ?_
  rw [ze rfl]
  refine zN ?_
  repeat refine zR ?_
  refine zN ?_
  exact retF _ rfl (zi rfl) R2 (fin (fun _=>.int .u64 (q:Int)) rfl (by
   have:(hi+1)*18446744073709551616≤r*18446744073709551616:=Nat.mul_le_mul_right _ hc1
   omega))
 by_cases hc2:hi=r∧lo≤w2
 ·obtain ⟨rfl,hc2⟩:=hc2
  refine zN ?_
  repeat refine zR ?_
  refine pt R8 zo ?_
  refine zO R6 hx1 (v:=.int .u64 (w2:Int)) ⟨hcs1,(by rw [←hcell hw2];congr 1;omega)⟩ ?_
  repeat refine zR ?_
  refine zN ?_
  rw [ze rfl]
  refine zN ?_
  repeat refine zR ?_
  refine zN ?_
  exact retF _ rfl (zi rfl) R2 (fin (fun _=>.int .u64 (q:Int)) rfl zo)
 have hgt:r*18446744073709551616+w2<q*v2:=by
  rw [←hp,hpe]
  rcases Nat.lt_or_ge r hi with h'|h'
  ·have:(r+1)*18446744073709551616≤hi*18446744073709551616:=Nat.mul_le_mul_right _ h'
   omega
  have:hi=r:=zo
  subst this
  omega
 have htest:=kE (vr:=vr) lw2 hwr hqr hgt
 have hq1:1≤q:=Nat.lt_of_le_of_lt (Nat.zero_le _) htest
 refine yP (α:=Unit) (fun _=>[(0,.slice (some ⟨b1,o1,none⟩) (m+3) c1),(5,.int .i64 ((m+2:Nat):Int)),(6,.int .u64 (v1:Int)),(7,.int .u64 (v2:Int)),(8,.int .u64 (q:Int)),(9,.int .u64 (r:Int)),(66,.bool false)]) (fun _ h' n' w=>h=h'∧n=n'∧w=[]) ?_ ?_
 ·by_cases hc3:hi=r
  ·subst hc3
   refine zN ?_
   repeat refine zR ?_
   refine pt R8 zo ?_
   refine zO R6 hx1 (v:=.int .u64 (w2:Int)) ⟨hcs1,(by rw [←hcell hw2];congr 1;omega)⟩ ?_
   repeat refine zR ?_
   refine zN ?_
   exact zS () ⟨rfl,rfl,rfl,rfl,rfl,rfl,rfl,trivial⟩ ⟨rfl,rfl,rfl⟩
  refine zN ?_
  repeat refine zR ?_
  refine zN ?_
  exact zS () ⟨rfl,rfl,rfl,rfl,rfl,rfl,rfl,trivial⟩ ⟨rfl,rfl,rfl⟩
 rintro _ t _ _ _ ⟨rfl,rfl,rfl⟩
 rw [za rfl]
 refine zN ?_
 refine zM ?_
 refine yb (a:=q) (b:=1) R6 zo ?_
 repeat refine zR ?_
 refine zN ?_
 refine zM ?_
 refine zM ?_
 refine vx (a:=r) (b:=v1) R6 ?_
 repeat refine zR ?_
 refine zN ?_
 have hqr':(q-1)*v1+(r+v1)=top:=by
  obtain ⟨q',rfl⟩:∃q',q=q'+1:=⟨q-1,zo⟩
  rw [Nat.add_mul] at hqr
  rw [Nat.add_sub_cancel]
  omega
 by_cases hov:r+v1<18446744073709551616
 ·rw [Nat.mod_eq_of_lt hov]
  repeat refine zR ?_
  refine zN ?_
  rw [za rfl]
  refine zN ?_
  exact goOn (q-1,r+v1) (by show 2-(r+v1)/9223372036854775808<2-r/9223372036854775808;omega) ⟨rfl,rfl,rfl,rfl,rfl,rfl,trivial⟩ ⟨rfl,rfl,rfl,by show q-1<_;omega,hov,hqr',by show _≤q-1;omega⟩
 rw [show (r+v1)%18446744073709551616=r+v1-18446744073709551616 from zo]
 repeat refine zR ?_
 refine zN ?_
 rw [ze rfl]
 refine zN ?_
 repeat refine zR ?_
 refine zN ?_
 refine retF _ rfl (zi rfl) R2 ⟨q-1,rfl,zo,zo,zd2 zo zd hvr hqr' ?_ zo⟩
 have h1:=rh (v:=q-1) (w:=v2) zo lv2
 have h2:18446744073709551616*18446744073709551616≤(r+v1)*18446744073709551616:=Nat.mul_le_mul_right _ zo
 omega
end
section
theorem lI {s:Nat}(hs:s≤64):(18446744073709551616:Nat)=2^(64-s)*2^s:=by rw [←Nat.pow_add,show 64-s+s=64 from zo]
theorem kd {w s:Nat}(hs:s≤64):w*2^s%18446744073709551616=w%2^(64-s)*2^s:=by
 rw [lI hs,Nat.mul_mod_mul_right]
theorem ze2 {w s c:Nat}(hs:s≤64)(hc:c<2^s):c|||w*2^s%18446744073709551616=c+w*2^s%18446744073709551616:=by
 rw [kd hs,Nat.or_comm,mb hc,Nat.add_comm]
theorem dW {w s c:Nat}(hs:s≤64)(hc:c<2^s):c+w*2^s%18446744073709551616<18446744073709551616:=by
 have h1:w%2^(64-s)+1≤2^(64-s):=Nat.mod_lt _ (Nat.pow_pos zd)
 have h2:=Nat.mul_le_mul_right (2^s) h1
 rw [Nat.add_mul,Nat.one_mul,←lI hs] at h2
 rw [kd hs]
 omega
theorem zdn {w s:Nat}(hs:s≤64)(hw:w<18446744073709551616):w/2^(64-s)<2^s:=by
 rw [Nat.div_lt_iff_lt_mul (Nat.pow_pos zd),Nat.mul_comm,←lI hs]
 exact hw
theorem nZ (n:Nat):2^n=18446744073709551616^(n/64)*2^(n%64):=by
 rw [show (18446744073709551616:Nat)=2^64 from rfl,←Nat.pow_mul,←Nat.pow_add,Nat.div_add_mod]
theorem zbd {w c s S:Nat}(hV:V+c*P=U*S)(hw:w*S=c'*18446744073709551616+lo)(hs:s=c+lo):V+P*s+c'*(P*18446744073709551616)=(U+P*w)*S:=by
 subst hs
 rw [Nat.add_mul U,←hV,Nat.mul_assoc P w S,hw,Nat.mul_add,Nat.mul_add,Nat.mul_comm c P,Nat.mul_left_comm c' P]
 omega
theorem jC (m:Nat):wv (List.replicate m 0)=0:=rn _ _
theorem uG (k:Nat){c:Nat}(hX:Sl h n 1 (.slice a l c) (u64s X))(nX:NW X)(hb:X.length<100000000∧m<6400000000):
  CF (cal (k+2)) 146 [.slice a l c,.int .u64 (m:Int)] h n fun v h' n' w=>∃L,ResW n h v h' n' w L∧wv L=wv X*2^m∧(yO n v∨v=.slice a l c):=by
 refine zv (fn:=Tryz.f146) R4 ?_
 have e1:=hX.lenW
 subst e1
 refine zN ?_
 repeat refine zR ?_
 refine zN ?_
 by_cases hX0:X.length=0
 ·have hX0':=List.length_eq_zero_iff.1 hX0
  repeat refine zR ?_
  refine zN ?_
  rw [ze rfl]
  refine zN ?_
  repeat refine zR ?_
  refine zN ?_
  exact retH _ ⟨rfl,(zi rfl),rfl⟩ ⟨X,⟨rfl,Nat.le_refl _,Ext.refl _ _,hX,nX⟩,by rw [hX0',show wv []=0 from rfl,Nat.zero_mul],.inr rfl⟩
 by_cases hm0:m=0
 ·repeat refine zR ?_
  refine zN ?_
  rw [ze rfl]
  refine zN ?_
  repeat refine zR ?_
  refine zN ?_
  exact retH _ ⟨rfl,(zi rfl),rfl⟩ ⟨X,⟨rfl,Nat.le_refl _,Ext.refl _ _,hX,nX⟩,by rw [hm0,Nat.pow_zero,Nat.mul_one],.inr rfl⟩
 repeat refine zR ?_
 refine zN ?_
 rw [za rfl]
 refine zN ?_
 rw [nZ m]
 obtain ⟨sk,hsk⟩:∃x,x=m/64:=⟨_,rfl⟩
 obtain ⟨s,hs⟩:∃x,x=m%64:=⟨_,rfl⟩
 rw [←hsk,←hs]
 have hs64:s≤64:=zo
 refine zM ?_
 refine xv (a:=m) (b:=64) R6 zo ?_
 rw [←hsk]
 refine wf (ik:=.i64) (a:=(sk:Int)) R6 (by show some (Value.int .i64 (IntKind.wrap .i64 _))=_;rw [yQ zo]) ?_
 refine zM ?_
 refine vf (a:=m) (b:=64) R6 zo ?_
 rw [←hs]
 repeat refine zR ?_
 refine zN ?_
 repeat refine zR ?_
 refine vv (len:=X.length+sk+1) (cap:=X.length+sk+1) R9 zo ?_
 rw [show zl (Value.int .u64 0)=[Value.int .u64 0] from rfl,xJ]
 generalize hh:upd h (3*n+2) _=h1
 have hr1:∃e,h1 (3*n+2)=some (.row (u64s (List.replicate sk 0++([]++0::List.replicate X.length 0))) e):=⟨_,by rw [←hh,zg,List.nil_append,←List.replicate_succ,List.replicate_append_replicate,show sk+(X.length+1)=X.length+sk+1 from zo]⟩
 obtain ⟨e,hr1⟩:=hr1
 have hx1:Ext n h h1:=by rw [←hh];exact Ext.upd zo
 clear hh
 repeat refine zR ?_
 refine zN ?_
 repeat refine zR ?_
 refine zN ?_
 refine z8 (α:=List Nat×Nat) (fun z=>[(5,.int .i64 (sk:Int)),(6,.int .u64 (s:Int)),(7,.slice (some ⟨3*n+2,0,none⟩) (X.length+sk+1) (X.length+sk+1)),(29,.slice a X.length c),(30,.int .i64 (X.length:Int)),(31,.int .i64 (z.1.length:Int))])
  (fun z h' n' w=>n'=n+1∧w=[]∧Ext n h h'∧h' (3*n+2)=some (.row (u64s (List.replicate sk 0++(z.1++z.2::List.replicate (X.length-z.1.length) 0))) e)∧z.1.length≤X.length∧WdD z.1∧z.2<2^s∧wv z.1+z.2*18446744073709551616^z.1.length=wv (X.take z.1.length)*2^s) (fun z=>X.length-z.1.length)
  ([],0) ⟨rfl,rfl,rfl,rfl,rfl,rfl,trivial⟩ ⟨rfl,rfl,hx1,hr1,Nat.zero_le _,WdD.nil,Nat.pow_pos zd,by simp [wv,dv]⟩ (by show X.length-0<LL;unfold LL;omega) ?_
 clear hr1 hx1
 rintro ⟨D,cc⟩ t h1 _ _ ⟨rfl,rfl,hx1,hr1,hD,hDd,hcc,hV⟩
 simp only at hr1 hD hDd hcc hV
 have hccl:cc<18446744073709551616:=Nat.lt_of_lt_of_le hcc (Nat.le_trans (Nat.pow_le_pow_right zd hs64) zd)
 refine zN ?_
 by_cases hDX:D.length=X.length
 ·rw [hDX,Nat.sub_self,List.replicate_zero] at hr1
  rw [hDX,List.take_length] at hV
  repeat refine zR ?_
  refine zN ?_
  rw [za rfl]
  refine zN ?_
  repeat refine zR ?_
  have htr:=xB k (h:=h1) (n:=n+1) (a:=some ⟨3*n+2,0,none⟩) (len:=X.length+sk+1) (cap:=X.length+sk+1) (l:=List.replicate sk 0++(D++[cc])) (by simp;omega) (fun _ e=>by injection e with e;rw [←e]) (xm zo hr1 (by simp;omega))
  refine zw _ R5 htr ?_
  rintro _ _ _ _ ⟨rfl,rfl,rfl,rfl,hsl⟩
  repeat refine zR ?_
  refine zN ?_
  obtain ⟨t1,t2⟩:=wk (L:=List.replicate sk 0++(D++[cc])) ((WdD.zeros sk).append (WdD.snoc hDd hccl))
  refine retH _ ⟨rfl,(zi rfl),rfl⟩ ⟨_,⟨rfl,Nat.le_succ n,hx1,hsl,t1⟩,?_,.inl (by show 3*n≤3*n+2;omega)⟩
  rw [t2,vU,jC,List.length_replicate,Nat.zero_add,yH,hDX,Nat.mul_comm (18446744073709551616^X.length) cc,hV,Nat.mul_left_comm]
 obtain ⟨w,hw⟩:∃x,X[D.length]?=some x:=⟨X[D.length]'zo,List.getElem?_eq_getElem zo⟩
 have hwl:=nX.1.get hw
 obtain ⟨m',hm'⟩:∃m,X.length-D.length=m+1:=⟨X.length-D.length-1,zo⟩
 rw [hm'] at hr1
 have hlen:(List.replicate sk 0++(D++cc::List.replicate (m'+1) 0)).length=X.length+sk+1:=by simp;omega
 have hZ:=xm (n:=n+1) zo hr1 hlen
 have hgetc:(List.replicate sk 0++(D++cc::List.replicate (m'+1) 0))[D.length+sk]?=some cc:=by
  rw [List.getElem?_append_right (by simp),List.length_replicate,Nat.add_sub_cancel,List.getElem?_append_right (Nat.le_refl _),Nat.sub_self]
  rfl
 have hset1:∀d,(List.replicate sk 0++(D++cc::List.replicate (m'+1) 0)).set (D.length+sk) d=List.replicate sk 0++(D++d::List.replicate (m'+1) 0):=fun d=>by
  rw [List.set_append_right _ _ (by simp),List.length_replicate,Nat.add_sub_cancel,List.set_append_right _ _ (Nat.le_refl _),Nat.sub_self]
  rfl
 have hset2:∀d d',(List.replicate sk 0++(D++d::List.replicate (m'+1) 0)).set (D.length+sk+1) d'=List.replicate sk 0++((D++[d])++d'::List.replicate m' 0):=fun d d'=>by
  rw [List.set_append_right _ _ (by simp;omega),List.length_replicate,show D.length+sk+1-sk=D.length+1 from zo,List.set_append_right _ _ zo,show D.length+1-D.length=1 from zo,List.replicate_succ]
  simp
 repeat refine zR ?_
 refine zN ?_
 rw [ze rfl]
 refine zN ?_
 repeat refine zR ?_
 refine yp (f:=fun d:Nat=>Value.int .u64 (d:Int)) (j:=D.length) R7 (hX.ext hx1 (Nat.le_succ n)) R2 hw (fun _=>rfl) R4 fun _=>?_
 repeat refine zR ?_
 refine zN ?_
 repeat refine zR ?_
 refine yp (f:=fun d:Nat=>Value.int .u64 (d:Int)) (j:=D.length+sk) R7 hZ ⟨rfl,zo⟩ hgetc (fun _=>rfl) R4 fun _=>?_
 refine zM ?_
 refine zM ?_
 refine xt (a:=w) (s:=s) R6 hs64 ?_
 refine wa (a:=cc) (b:=w*2^s%18446744073709551616) R6 ⟨hccl,Nat.mod_lt _ zd⟩ ?_
 rw [ze2 hs64 hcc]
 have hdl:=dW (w:=w) hs64 hcc
 obtain ⟨d,hd⟩:∃d,d=cc+w*2^s%18446744073709551616:=⟨_,rfl⟩
 rw [←hd] at hdl ⊢
 refine vO (j:=D.length+sk) (v:=.int .u64 (d:Int)) R8 zo ⟨zo,by rw [zF,hlen];omega⟩ hr1 (by show 3*n≤3*n+2;omega) (fun _=>rfl) R3 (fun _=>rfl) rfl fun _=>?_
 rw [ye,hset1]
 generalize hh:upd h1 (3*n+2) _=h2
 have hr2:h2 (3*n+2)=some (.row (u64s (List.replicate sk 0++(D++d::List.replicate (m'+1) 0))) e):=by rw [←hh,zg]
 have hx2:Ext n h h2:=fun b hb=>by rw [←hh,zj zo,hx1 b hb]
 clear hh
 refine zN ?_
 refine zM ?_
 refine zM ?_
 refine zM ?_
 refine zR ?_
 refine zR ?_
 refine zM ?_
 refine zM ?_
 refine yb (a:=64) (b:=s) R6 zo ?_
 refine yc (a:=w) (s:=64-s) R6 zo ?_
 refine vO (j:=D.length+sk+1) (v:=.int .u64 ((w/2^(64-s):Nat):Int)) R8 zo ⟨zo,by rw [zF];simp;omega⟩ hr2 (by show 3*n≤3*n+2;omega) (fun _=>rfl) R3 (fun _=>rfl) rfl fun _=>?_
 rw [ye,hset2]
 repeat refine zR ?_
 refine zN ?_
 repeat refine zR ?_
 refine zN ?_
 refine goOn (D++[d],w/2^(64-s)) (by show X.length-(D++[d]).length<X.length-D.length;rw [List.length_append,List.length_singleton];omega) ⟨rfl,rfl,rfl,rfl,rfl,by show Value.int .i64 _=Value.int .i64 _;rw [List.length_append];rfl,trivial⟩ ⟨rfl,rfl,fun b hb=>(zj zo).trans (hx2 b hb),?_,by show (D++[d]).length≤_;rw [List.length_append,List.length_singleton];omega,WdD.snoc hDd hdl,zdn hs64 hwl,?_⟩
 ·refine (zg _ _ _).trans ?_
  simp only
  rw [show X.length-(D++[d]).length=m' from by rw [List.length_append,List.length_singleton];omega]
 simp only
 rw [List.length_append,List.length_singleton,yH,zC hw,Nat.pow_succ]
 exact zbd hV (nF hs64) hd
def nxt (X:List Nat)(j s:Nat):Nat:=((X[j]?).getD 0)%2^s
theorem zbb {x r S z r':Nat}(hV:V*S+r=U+x%S*P)(hz:z*S=x-x%S+r'*18446744073709551616)(hx:x%S≤x):(V+P*z)*S+r=U+P*x+r'*(P*18446744073709551616):=by
 have e:(V+P*z)*S=V*S+P*(z*S):=by rw [Nat.add_mul,Nat.mul_assoc]
 obtain ⟨y,hy⟩:∃y,x=y+x%S:=⟨x-x%S,zo⟩
 have h1:x-x%S=y:=zo
 rw [e,hz,h1,Nat.mul_add]
 have h2:P*x=P*y+P*(x%S):=by conv=>lhs;rw [hy,Nat.mul_add]
 rw [h2,Nat.mul_left_comm r' P,Nat.mul_comm P (x%S)]
 omega
theorem zba {x y s:Nat}(hs:s≤64):(x/2^s|||y*2^(64-s)%18446744073709551616)*2^s=x-x%2^s+y%2^s*18446744073709551616∨18446744073709551616≤x:=by
 by_cases hx:x<18446744073709551616
 ·left
  have h1:x/2^s<2^(64-s):=by
   rw [Nat.div_lt_iff_lt_mul (Nat.pow_pos zd),←lI hs]
   exact hx
  have h64:64-(64-s)=s:=zo
  have e1:=kd (w:=y) (s:=64-s) zo
  rw [h64] at e1
  rw [e1,Nat.or_comm,mb h1,Nat.add_mul,Nat.mul_assoc,←lI hs,Nat.add_comm]
  have:=Nat.div_add_mod x (2^s)
  have h2:x/2^s*2^s=x-x%2^s:=by rw [Nat.mul_comm];omega
  rw [h2]
 right;omega
theorem zhs (X:List Nat)(j s:Nat):nxt X j s<2^s:=Nat.mod_lt _ (Nat.pow_pos zd)
theorem zdr {s x:Nat}(h:X[j]?=some x):nxt X j s=x%2^s:=by unfold nxt;rw [h];rfl
theorem cD {s:Nat}(h:X.length≤j):nxt X j s=0:=by unfold nxt;rw [List.getElem?_eq_none h];exact Nat.zero_mod _
theorem ze1 (hX:WdD X):wv X/2^m=wv (X.drop (m/64))/2^(m%64):=by
 rw [nZ m,←Nat.div_div_eq_div_mul]
 congr 1
 rcases Nat.lt_or_ge X.length (m/64) with h|h
 ·rw [List.drop_eq_nil_of_le zo,show wv []=0 from rfl,Nat.div_eq_of_lt]
  exact Nat.lt_of_lt_of_le (ws hX) (Nat.pow_le_pow_right zd zo)
 have hlt:wv (X.take (m/64))<18446744073709551616^(m/64):=by
  have:=ws (hX.take (m/64))
  rw [List.length_take,Nat.min_eq_left h] at this
  exact this
 rw [rJ X (m/64) h,Nat.add_mul_div_left _ _ (Nat.pow_pos zd),Nat.div_eq_of_lt hlt,Nat.zero_add]
theorem qj (k:Nat){c:Nat}(hX:Sl h n 1 (.slice a l c) (u64s X))(nX:NW X)(hb:X.length<100000000∧m<18446744073709551616):
  CF (cal (k+2)) 151 [.slice a l c,.int .u64 (m:Int)] h n fun v h' n' w=>∃L,ResW n h v h' n' w L∧wv L=wv X/2^m∧yO n v:=by
 refine zv (fn:=Tryz.f151) R4 ?_
 have e1:=hX.lenW
 subst e1
 rw [ze1 nX.1]
 obtain ⟨sk,hsk⟩:∃x,x=m/64:=⟨_,rfl⟩
 obtain ⟨s,hs⟩:∃x,x=m%64:=⟨_,rfl⟩
 have hs64:s≤64:=zo
 rw [←hsk,←hs]
 refine zN ?_
 repeat refine zR ?_
 refine zN ?_
 refine zM ?_
 refine xv (a:=m) (b:=64) R6 zo ?_
 rw [←hsk]
 refine zM ?_
 refine st_I (ik:=.i64) (a:=(X.length:Int)) R5 ?_
 refine uO (c:=X.length) R7 zo ?_
 by_cases hbig:X.length≤sk
 ·repeat refine zR ?_
  refine zN ?_
  rw [ze rfl]
  refine zN ?_
  repeat refine zR ?_
  refine zN ?_
  exact retH _ ⟨rfl,(zi rfl),rfl⟩ ⟨[],⟨rfl,Nat.le_refl _,Ext.refl _ _,.nil (.inl rfl),NW.nil⟩,by rw [List.drop_eq_nil_of_le hbig,show wv []=0 from rfl,Nat.zero_div],trivial⟩
 repeat refine zR ?_
 refine zN ?_
 rw [za rfl]
 refine zN ?_
 refine zM ?_
 refine xv (a:=m) (b:=64) R6 zo ?_
 rw [←hsk]
 refine wf (ik:=.i64) (a:=(sk:Int)) R6 (by show some (Value.int .i64 (IntKind.wrap .i64 _))=_;rw [yQ zo]) ?_
 refine zM ?_
 refine vf (a:=m) (b:=64) R6 zo ?_
 rw [←hs]
 repeat refine zR ?_
 refine zN ?_
 obtain ⟨N,hN⟩:∃N,N=X.length-sk:=⟨_,rfl⟩
 refine zM ?_
 refine st_I (ik:=.i64) (a:=(X.length:Int)) R5 ?_
 refine zM ?_
 refine rb (a:=(X.length:Int)) (b:=(sk:Int)) R6 zo ?_
 rw [show (X.length:Int)-(sk:Int)=(N:Int) from zo]
 refine vv (len:=N) (cap:=N) R9 zo ?_
 rw [show zl (Value.int .u64 0)=[Value.int .u64 0] from rfl,xJ]
 generalize hh:upd h (3*n+2) _=h1
 have hr1:∃e,h1 (3*n+2)=some (.row (u64s ([]++List.replicate N 0)) e):=⟨_,by rw [←hh,zg];rfl⟩
 obtain ⟨e,hr1⟩:=hr1
 have hx1:Ext n h h1:=by rw [←hh];exact Ext.upd zo
 clear hh
 have hYl:(X.drop sk).length=N:=by rw [List.length_drop];omega
 obtain ⟨Y,hY⟩:∃Y,Y=X.drop sk:=⟨_,rfl⟩
 rw [←hY] at hYl ⊢
 have hYg:∀j,Y[j]?=X[j+sk]?:=fun j=>by rw [hY,List.getElem?_drop,Nat.add_comm]
 have hYd:WdD Y:=by rw [hY];exact nX.1.drop sk
 repeat refine zR ?_
 refine zN ?_
 repeat refine zR ?_
 refine zN ?_
 refine z8 (α:=List Nat) (fun D=>[(0,.slice a X.length c),(5,.int .i64 (sk:Int)),(6,.int .u64 (s:Int)),(7,.slice (some ⟨3*n+2,0,none⟩) N N),(26,.int .i64 (N:Int)),(27,.int .i64 (D.length:Int))])
  (fun D h' n' w=>n'=n+1∧w=[]∧Ext n h h'∧h' (3*n+2)=some (.row (u64s (D++List.replicate (N-D.length) 0)) e)∧D.length≤N∧WdD D∧wv D*2^s+nxt Y 0 s=wv (Y.take D.length)+nxt Y D.length s*18446744073709551616^D.length) (fun D=>N-D.length)
  [] ⟨rfl,rfl,rfl,rfl,rfl,rfl,trivial⟩ ⟨rfl,rfl,hx1,hr1,Nat.zero_le _,WdD.nil,by simp [wv,dv]⟩ (by show N-0<LL;unfold LL;omega) ?_
 clear hr1 hx1
 rintro D t h1 _ _ ⟨rfl,rfl,hx1,hr1,hD,hDd,hV⟩
 refine zN ?_
 by_cases hDN:D.length=N
 ·rw [hDN,Nat.sub_self,List.replicate_zero,List.append_nil] at hr1
  rw [hDN,cD (X:=Y) (j:=N) zo,Nat.zero_mul,Nat.add_zero,←hYl,List.take_length] at hV
  repeat refine zR ?_
  refine zN ?_
  rw [za rfl]
  refine zN ?_
  repeat refine zR ?_
  have htr:=xB k (h:=h1) (n:=n+1) (a:=some ⟨3*n+2,0,none⟩) (len:=N) (cap:=N) (l:=D) zo (fun _ e=>by injection e with e;rw [←e]) (xm zo hr1 hDN)
  refine zw _ R5 htr ?_
  rintro _ _ _ _ ⟨rfl,rfl,rfl,rfl,hsl⟩
  repeat refine zR ?_
  refine zN ?_
  obtain ⟨t1,t2⟩:=wk hDd
  refine retH _ ⟨rfl,(zi rfl),rfl⟩ ⟨_,⟨rfl,Nat.le_succ n,hx1,hsl,t1⟩,?_,by show 3*n≤3*n+2;omega⟩
  rw [t2,←hV,Nat.add_comm,Nat.add_mul_div_right _ _ (Nat.pow_pos zd),Nat.div_eq_of_lt (zhs _ _ _),Nat.zero_add]
 obtain ⟨x,hx⟩:∃x,X[D.length+sk]?=some x:=⟨X[D.length+sk]'zo,List.getElem?_eq_getElem zo⟩
 have hxl:=nX.1.get hx
 have hyx:Y[D.length]?=some x:=by rw [hYg];exact hx
 obtain ⟨m',hm'⟩:∃m,N-D.length=m+1:=⟨N-D.length-1,zo⟩
 rw [hm'] at hr1
 have hX1:=hX.ext hx1 (Nat.le_succ n)
 have hxs:x/2^s<18446744073709551616:=Nat.lt_of_le_of_lt (Nat.div_le_self _ _) hxl
 repeat refine zR ?_
 refine zN ?_
 rw [ze rfl]
 refine zN ?_
 repeat refine zR ?_
 refine zN ?_
 repeat refine zR ?_
 refine yp (f:=fun d:Nat=>Value.int .u64 (d:Int)) (j:=D.length+sk) R7 hX1 ⟨rfl,zo⟩ hx (fun _=>rfl) R4 fun _=>?_
 refine zM ?_
 refine yc (a:=x) (s:=s) R6 hs64 ?_
 refine vO (j:=D.length) (v:=.int .u64 ((x/2^s:Nat):Int)) R8 rfl ⟨zo,by rw [zF];simp⟩ hr1 (by show 3*n≤3*n+2;omega) (fun _=>rfl) R3 (fun _=>rfl) rfl fun _=>?_
 rw [ye,jT]
 generalize hh:upd h1 (3*n+2) _=h2
 have hr2:h2 (3*n+2)=some (.row (u64s ((D++[x/2^s])++List.replicate m' 0)) e):=by rw [←hh,zg]
 have hx2:Ext n h h2:=fun b hb=>by rw [←hh,zj zo,hx1 b hb]
 clear hh hX1
 have hX2:=hX.ext hx2 (Nat.le_succ n)
 have hlen:((D++[x/2^s])++List.replicate m' 0).length=N:=by simp;omega
 have hget:((D++[x/2^s])++List.replicate m' 0)[D.length]?=some (x/2^s):=by rw [List.append_assoc,List.getElem?_append_right (Nat.le_refl _),Nat.sub_self];rfl
 refine zN ?_
 repeat refine zR ?_
 simp only [yE,xE,zK,xz]
 refine zgu (α:=Nat) (fun _=>[(0,.slice a X.length c),(5,.int .i64 (sk:Int)),(6,.int .u64 (s:Int)),(7,.slice (some ⟨3*n+2,0,none⟩) N N),(26,.int .i64 (N:Int)),(27,.int .i64 (D.length:Int))])
  (fun z h' n' w=>n'=n+1∧w=[]∧Ext n h h'∧h' (3*n+2)=some (.row (u64s ((D++[z])++List.replicate m' 0)) e)∧z<18446744073709551616∧z*2^s=x-x%2^s+nxt Y (D.length+1) s*18446744073709551616) ?_ ?_
 ·by_cases hlast:D.length+sk+1<X.length
  ·obtain ⟨y,hy⟩:∃x,X[D.length+sk+1]?=some x:=⟨X[D.length+sk+1]'zo,List.getElem?_eq_getElem zo⟩
   have hyY:Y[D.length+1]?=some y:=by rw [hYg,show D.length+1+sk=D.length+sk+1 from zo];exact hy
   rw [ze (by show Value.bool _=_;rw [decide_eq_true zo])]
   rw [zc8 rfl]
   repeat refine zR ?_
   refine yp (f:=fun d:Nat=>Value.int .u64 (d:Int)) (j:=D.length) R7 (xm (n:=n+1) zo hr2 hlen) R2 hget (fun _=>rfl) R4 fun _=>?_
   repeat refine zR ?_
   refine yp (f:=fun d:Nat=>Value.int .u64 (d:Int)) (j:=D.length+sk+1) R7 hX2 ⟨rfl,zo⟩ hy (fun _=>rfl) R4 fun _=>?_
   refine zM ?_
   refine yb (a:=64) (b:=s) R6 zo ?_
   refine xt (a:=y) (s:=64-s) R6 zo ?_
   refine wa (a:=x/2^s) (b:=y*2^(64-s)%18446744073709551616) R6 ⟨hxs,Nat.mod_lt _ zd⟩ ?_
   refine vO (j:=D.length) (v:=.int .u64 ((x/2^s|||y*2^(64-s)%18446744073709551616:Nat):Int)) R8 rfl ⟨zo,by rw [zF,hlen];omega⟩ hr2 (by show 3*n≤3*n+2;omega) (fun _=>rfl) R3 (fun _=>rfl) rfl fun _=>?_
   rw [ye,List.append_assoc,List.set_append_right _ _ (Nat.le_refl _),Nat.sub_self]
   refine zN ?_
   refine zS (x/2^s|||y*2^(64-s)%18446744073709551616) ⟨rfl,rfl,rfl,rfl,rfl,rfl,trivial⟩ ⟨rfl,rfl,fun b hb=>(zj zo).trans (hx2 b hb),(zg _ _ _).trans (by rw [List.append_assoc];rfl),Nat.or_lt_two_pow (n:=64) hxs (Nat.mod_lt _ zd),?_⟩
   rw [zdr hyY]
   exact (zba hs64).resolve_right zo
  rw [za (by show Value.bool _=_;rw [decide_eq_false zo])]
  refine zN ?_
  refine zS (x/2^s) ⟨rfl,rfl,rfl,rfl,rfl,rfl,trivial⟩ ⟨rfl,rfl,hx2,hr2,hxs,?_⟩
  rw [cD zo,Nat.zero_mul,Nat.add_zero]
  have:=Nat.div_add_mod x (2^s)
  rw [Nat.mul_comm] at this
  omega
 rintro z t h3 _ _ ⟨rfl,rfl,hx3,hr3,hzl,hz⟩
 refine zN ?_
 repeat refine zR ?_
 refine zN ?_
 refine goOn (D++[z]) (by show N-(D++[z]).length<N-D.length;rw [List.length_append,List.length_singleton];omega) ⟨rfl,rfl,rfl,rfl,rfl,by show Value.int .i64 _=Value.int .i64 _;rw [List.length_append];rfl,trivial⟩ ⟨rfl,rfl,hx3,?_,by rw [List.length_append,List.length_singleton];omega,WdD.snoc hDd hzl,?_⟩
 ·refine hr3.trans ?_
  rw [show N-(D++[z]).length=m' from by rw [List.length_append,List.length_singleton];omega]
 rw [List.length_append,List.length_singleton,yH,zC hyx,Nat.pow_succ]
 rw [zdr hyx] at hV
 exact zbb hV hz (Nat.mod_le _ _)
end
section
theorem zbr {Y V:List Nat}{y1 s:Nat}(hYl:Y.length=m+2)(nY:NW Y)(hy:Y[m+1]?=some y1)(h1:9223372036854775808≤y1*2^s)(h2:y1*2^s<18446744073709551616)(hs:s<64)(nV:NW V)(hV:wv V=wv Y*2^s):
  V.length=m+2∧(∀x,V[m+1]?=some x→9223372036854775808≤x)∧wv V<18446744073709551616^(m+2)∧18446744073709551616^(m+1)*9223372036854775808≤wv V:=by
 have eY:wv Y=wv (Y.take (m+1))+18446744073709551616^(m+1)*y1:=by
  rw [←zC hy,show m+1+1=Y.length from zo,List.take_length]
 have hlo:wv (Y.take (m+1))<18446744073709551616^(m+1):=by
  have:=ws (nY.1.take (m+1))
  rw [List.length_take,Nat.min_eq_left zo] at this
  exact this
 have hup:(y1+1)*2^s≤18446744073709551616:=by
  rw [lI (s:=s) zo] at h2 ⊢
  exact Nat.mul_le_mul_right _ (Nat.lt_of_mul_lt_mul_right h2)
 rw [Nat.pow_succ _ (m+1)]
 generalize hP:18446744073709551616^(m+1)=P at*
 have hPp:0<P:=zo
 have b1:wv V<P*18446744073709551616:=by
  rw [hV,eY]
  have e1:(wv (Y.take (m+1))+P*y1)*2^s<(P*(y1+1))*2^s:=by
   refine Nat.mul_lt_mul_of_pos_right ?_ (Nat.pow_pos zd)
   rw [Nat.mul_add,Nat.mul_one];omega
  have e2:P*(y1+1)*2^s≤P*18446744073709551616:=by rw [Nat.mul_assoc];exact Nat.mul_le_mul_left _ hup
  omega
 have b2:P*9223372036854775808≤wv V:=by
  rw [hV,eY,Nat.add_mul,Nat.mul_assoc]
  have:=Nat.mul_le_mul_left P h1
  omega
 have hle:V.length≤m+2:=nV.len_le (by rw [Nat.pow_succ _ (m+1),hP];exact b1)
 have hge:m+2≤V.length:=by
  rcases Nat.lt_or_ge V.length (m+2) with hl|hl
  ·have h3:=ws nV.1
   have h4:18446744073709551616^V.length≤18446744073709551616^(m+1):=Nat.pow_le_pow_right zd zo
   rw [hP] at h4
   omega
  exact hl
 refine ⟨zo,fun x hx=>?_,b1,b2⟩
 have eV:wv V=wv (V.take (m+1))+P*x:=by
  rw [←hP,←zC hx,show m+1+1=V.length from zo,List.take_length]
 have hlo2:wv (V.take (m+1))<P:=by
  have:=ws (nV.1.take (m+1))
  rw [List.length_take,Nat.min_eq_left zo,hP] at this
  exact this
 rcases Nat.lt_or_ge x 9223372036854775808 with hx'|hx'
 ·have:=Nat.mul_le_mul_left P hx'
  rw [Nat.mul_succ] at this
  omega
 exact hx'
theorem zep {P V:List Nat}(hZ:Z.length=N)(hd:WdD Z)(hV:wv V<18446744073709551616^N)(h:wv ((P++(Z++top::S)).drop (P.length+1))<wv V)(hN:1≤N):
  wv S=0∧wv (Z++[top])<18446744073709551616*wv V:=by
 have e:(P++(Z++top::S)).drop (P.length+1)=(Z++top::S).drop 1:=by rw [←List.drop_drop,List.drop_left' rfl]
 rw [e] at h
 cases Z with
 |nil=>simp at hZ;omega
 |cons z Z=>
  rw [List.cons_append,List.drop_succ_cons,List.drop_zero] at h
  rw [vU,show wv (top::S)=top+18446744073709551616*wv S from rfl] at h
  have hZl:Z.length+1=N:=by simpa using hZ
  have hS:wv S=0:=by
   rcases Nat.eq_zero_or_pos (wv S) with h0|h0
   ·exact h0
   have h1:18446744073709551616^Z.length*(18446744073709551616*1)≤18446744073709551616^Z.length*(18446744073709551616*wv S):=Nat.mul_le_mul_left _ (Nat.mul_le_mul_left _ h0)
   rw [Nat.mul_one,←Nat.pow_succ,show Z.length.succ=N from hZl] at h1
   rw [Nat.mul_add] at h
   omega
  refine ⟨hS,?_⟩
  have h2:wv (Z++[top])<wv V:=by
   rw [yH]
   rw [hS,Nat.mul_zero,Nat.add_zero] at h
   exact h
  have hz:=hd z (by simp)
  show z+18446744073709551616*wv (Z++[top])<_
  omega
theorem zgv (P Z S:List Nat)(top:Nat):wv (P++(Z++top::S))=wv P+18446744073709551616^P.length*(wv (Z++[top])+18446744073709551616^(Z.length+1)*wv S):=by
 rw [show Z++top::S=(Z++[top])++S from by simp,vU,vU,List.length_append,List.length_singleton]
theorem zf5 {P Zf V Q:List Nat}{t' q X2:Nat}(hZ:Zf.length=Z.length)(hW:wv (Zf++[t'])+wv V*q=wv (Z++[top]))(hE:X2=wv (P++(Z++top::S))+wv V*wv Q*18446744073709551616^(P.length+1)):
  X2=wv (P++(Zf++t'::S))+wv V*wv (q::Q)*18446744073709551616^P.length:=by
 rw [zgv] at hE ⊢
 rw [hE,hZ,←hW,Nat.pow_succ _ P.length,show wv (q::Q)=q+18446744073709551616*wv Q from rfl]
 generalize 18446744073709551616^P.length=A
 generalize 18446744073709551616^(Z.length+1)*wv S=T
 generalize wv (Zf++[t'])=U
 generalize wv V=v
 generalize wv Q=w
 rw [Nat.mul_add v,Nat.add_mul,Nat.mul_add A,Nat.mul_add A,Nat.mul_add A]
 have e1:v*(18446744073709551616*w)*A=v*w*(A*18446744073709551616):=by
  rw [Nat.mul_left_comm v,Nat.mul_comm A,←Nat.mul_assoc (v*w),Nat.mul_comm (v*w)]
 have e2:A*(v*q)=v*q*A:=Nat.mul_comm _ _
 omega
theorem zch {Z1 V:List Nat}{c:Nat}(hZ1:Z1.length=N)(hZ:Z.length=N)(dZ1:WdD Z1)(hV0:0<wv V)(hs:wv Z1+wv V*d=wv Z+c*18446744073709551616^N)(hlo:wv (Z++[top])/wv V≤d)(hhi:d≤wv (Z++[top])/wv V+1):
  (c≤top→d=wv (Z++[top])/wv V∧wv (Z1++[top-c])=wv (Z++[top])%wv V)∧(top<c→d=wv (Z++[top])/wv V+1∧wv (Z++[top])%wv V+(c-top)*18446744073709551616^N=wv Z1+wv V):=by
 have hlt:=ws dZ1
 rw [hZ1] at hlt
 have eW:wv (Z++[top])=wv Z+18446744073709551616^N*top:=by rw [yH,hZ]
 have eZ1:∀t,wv (Z1++[t])=wv Z1+18446744073709551616^N*t:=fun t=>by rw [yH,hZ1]
 have hdm:=Nat.div_add_mod (wv (Z++[top])) (wv V)
 have hml:=Nat.mod_lt (wv (Z++[top])) hV0
 obtain ⟨q,hq⟩:∃q,q=wv (Z++[top])/wv V:=⟨_,rfl⟩
 obtain ⟨r,hr⟩:∃r,r=wv (Z++[top])%wv V:=⟨_,rfl⟩
 rw [←hq] at hdm hlo hhi ⊢
 rw [←hr] at hdm hml ⊢
 generalize 18446744073709551616^N=P at*
 generalize wv V=v at*
 generalize wv Z=z at*
 have hd:d=q∨d=q+1:=zo
 constructor
 ·intro hct
  obtain ⟨y,hy⟩:∃y,top=c+y:=⟨top-c,zo⟩
  rw [eZ1]
  have e0:top-c=y:=zo
  have e1:P*top=c*P+P*y:=by rw [hy,Nat.mul_add,Nat.mul_comm P c]
  rw [e0]
  rcases hd with rfl|rfl
  ·exact ⟨rfl,zo⟩
  rw [Nat.mul_add,Nat.mul_one] at hs
  omega
 intro hct
 obtain ⟨y,hy⟩:∃y,c=top+(y+1):=⟨c-top-1,zo⟩
 have e0:c-top=y+1:=zo
 have e1:c*P=P*top+(y+1)*P:=by rw [hy,Nat.add_mul,Nat.mul_comm P top]
 have e2:(y+1)*P=y*P+P:=by rw [Nat.add_mul,Nat.one_mul]
 rw [e0]
 rcases hd with rfl|rfl
 ·omega
 rw [Nat.mul_add,Nat.mul_one] at hs
 exact ⟨rfl,zo⟩
theorem mP (k:Nat)(hA:Sl h n 1 (.slice a1 l1 c1) (u64s A))(hC:Sl h n 1 (.slice a2 l2 c2) (u64s C))(nA:NW A)(nC:NW C)(hb:A.length<10000000∧C.length<10000000)(hC0:0<wv C):
  CF (cal (k+5)) 139 [.slice a1 l1 c1,.slice a2 l2 c2] h n fun v h' n' w=>∃vq vr Lq Lr,v=.tuple #[vq,vr]∧w=[]∧n≤n'∧Ext n h h'∧Sl h' n' 1 vq (u64s Lq)∧NW Lq∧Sl h' n' 1 vr (u64s Lr)∧NW Lr∧wv Lq=wv A/wv C∧wv Lr=wv A%wv C∧yO n vq∧(yO n vr∨vr=.slice a1 l1 c1):=by
 refine zv (fn:=Tryz.f139) R4 ?_
 have e1:=hA.lenW
 have e2:=hC.lenW
 subst e1 e2
 refine zN ?_
 repeat refine zR ?_
 refine zN ?_
 refine zM ?_
 refine zM ?_
 refine ya _ R5 (vL (k+1) hA hC nA nC zo) ?_
 rintro _ rfl
 by_cases hlt:wv A<wv C
 ·rw [ul hlt]
  repeat refine zR ?_
  refine zN ?_
  rw [ze rfl]
  refine zN ?_
  repeat refine zR ?_
  refine zN ?_
  exact retH [.slice none 0 0,.slice a1 A.length c1] R3 ⟨_,_,[],A,rfl,rfl,Nat.le_refl _,Ext.refl _ _,.nil (.inl rfl),NW.nil,hA,nA,by rw [Nat.div_eq_of_lt hlt];rfl,by rw [Nat.mod_eq_of_lt hlt],trivial,.inr rfl⟩
 have hcmp:¬cmpZ (wv A) (wv C)<0:=by
  rcases Nat.lt_or_ge (wv C) (wv A) with h|h
  ·rw [um h];decide
  rw [show wv A=wv C from zo,qQ];decide
 repeat refine zR ?_
 refine zN ?_
 rw [za rfl]
 refine zN ?_
 by_cases hC1:C.length=1
 ·obtain ⟨y,rfl⟩:=List.length_eq_one_iff.1 hC1
  have hy:=nC.1 y (by simp)
  rw [sY] at hC0 ⊢
  rw [show [y].length=1 from rfl] at hC ⊢
  repeat refine zR ?_
  refine zN ?_
  rw [ze rfl]
  refine zN ?_
  repeat refine zR ?_
  refine yp (f:=fun d:Nat=>Value.int .u64 (d:Int)) (l:=[y]) (j:=0) R7 hC R2 rfl (fun _=>rfl) R4 fun _=>?_
  refine zw _ R5 (fS k zo nA.1 ⟨hC0,hy⟩ hA) ?_
  rintro _ h1 n1 _ ⟨v1,L1,rfl,⟨rfl,hn1,hx1,hs1,hN1⟩,hv1,_,hf1⟩
  obtain ⟨a3,l3,c3,rfl,_⟩:=hs1.len
  repeat refine zR ?_
  refine zN ?_
  repeat refine zR ?_
  refine zw _ R5 (vJ (k+3) h1 n1 (w:=wv A%y) (Nat.lt_trans (Nat.mod_lt _ hC0) hy)) ?_
  rintro v2 h2 n2 _ ⟨L2,⟨rfl,hn2,hx2,hs2,hN2⟩,hv2,_,hf2⟩
  obtain ⟨a4,l4,c4,rfl,_⟩:=hs2.len
  repeat refine zR ?_
  refine zN ?_
  exact retH [.slice a3 l3 c3,.slice a4 l4 c4] R3 ⟨_,_,L1,L2,rfl,rfl,by show n≤n2;omega,hx1.trans hx2 hn1,hs1.ext hx2 hn2,hN1,hs2,hN2,hv1,hv2,hf1,.inl (hf2.mono hn1)⟩
 have hC2:2≤C.length:=by
  rcases Nat.lt_or_ge C.length 2 with h|h
  ·have:C.length=0:=zo
   rw [List.length_eq_zero_iff.1 this] at hC0
   exact absurd hC0 zd
  exact h
 obtain ⟨m,hm⟩:∃m,C.length=m+2:=⟨C.length-2,zo⟩
 have hAC:m+2≤A.length:=by
  rcases Nat.lt_or_ge A.length C.length with hl|hl
  ·have:=nA.len_lt nC hl;omega
  omega
 rw [hm] at hC ⊢
 repeat refine zR ?_
 refine zN ?_
 rw [za rfl]
 refine zN ?_
 repeat refine zR ?_
 refine zN ?_
 obtain ⟨y1,hy1⟩:∃x,C[m+1]?=some x:=⟨C[m+1]'zo,List.getElem?_eq_getElem zo⟩
 have hy1l:=nC.1.get hy1
 have hy10:y1≠0:=by
  obtain ⟨i,d,hid⟩:=Go.Proofs.YtdcfbgmbaniglaaGreatDoor.snoc (l:=C) (by intro e;rw [e] at hm;simp at hm)
  have hil:i.length=m+1:=by rw [hid] at hm;simp at hm;omega
  rw [hid,←hil,List.getElem?_append_right (Nat.le_refl _),Nat.sub_self] at hy1
  have:d=y1:=by simpa using hy1
  rw [←this]
  exact NW.last (by rw [←hid];exact nC)
 repeat refine zR ?_
 refine yp (f:=fun d:Nat=>Value.int .u64 (d:Int)) (j:=m+1) R7 hC ⟨rfl,zo⟩ hy1 (fun _=>rfl) R4 fun _=>?_
 refine ya _ R5 (kw (k+2) h n hy1l hy10) ?_
 rintro _ ⟨s,rfl,hs64,hs1,hs2⟩
 refine uO (c:=s) R7 zo ?_
 repeat refine zR ?_
 refine zN ?_
 refine zM ?_
 refine zM ?_
 refine zw _ R5 (uG (k+2) (m:=s) hC nC zo) ?_
 rintro vV h1 n1 _ ⟨V,⟨rfl,hn1,hx1,hsV,nV⟩,hvV,hfV⟩
 obtain ⟨hVl,hVtop,hVlt,hVge⟩:=zbr hm nC hy1 hs1 hs2 hs64 nV hvV
 obtain ⟨aV,lV,cV,rfl,_⟩:=hsV.len
 have hVlen:=hsV.lenW
 rw [hVl] at hVlen
 subst hVlen
 repeat refine zR ?_
 refine zN ?_
 repeat refine zR ?_
 refine vv (len:=A.length+1) (cap:=A.length+1) R9 zo ?_
 rw [show zl (Value.int .u64 0)=[Value.int .u64 0] from rfl,xJ]
 generalize hh:upd h1 (3*n1+2) _=h2
 have hr2:∃e,h2 (3*n1+2)=some (.row (u64s (List.replicate (A.length+1) 0)) e):=⟨_,by rw [←hh,zg]⟩
 obtain ⟨eR,hr2⟩:=hr2
 have hx2:Ext n1 h1 h2:=by rw [←hh];exact Ext.upd zo
 clear hh
 repeat refine zR ?_
 refine zN ?_
 refine zM ?_
 refine zM ?_
 refine zM ?_
 refine zw _ R5 (uG (k+2) (m:=s) (hA.ext (hx1.trans hx2 hn1) (show n≤n1+1 by omega)) nA zo) ?_
 rintro vS h3 n3 _ ⟨S0,⟨rfl,hn3,hx3,hsS,nS⟩,hvS,_⟩
 obtain ⟨aS,lS,cS,rfl,_⟩:=hsS.len
 have hSlen:=hsS.lenW
 subst hSlen
 have hr3:h3 (3*n1+2)=_:=(hx3 _ zo).trans hr2
 have hAlt:=ws nA.1
 have hSlt:wv S0<18446744073709551616^(A.length+1):=by
  rw [hvS,Nat.pow_succ]
  have h1:(2:Nat)^s<18446744073709551616:=Nat.pow_lt_pow_right zd (show s<64 by omega)
  have h2:wv A*2^s≤wv A*18446744073709551616:=Nat.mul_le_mul_left _ zo
  have h3:wv A*18446744073709551616<18446744073709551616^A.length*18446744073709551616:=Nat.mul_lt_mul_of_pos_right hAlt zd
  omega
 have hSl:S0.length≤A.length+1:=nS.len_le hSlt
 refine jO (m:=S0.length) R7 (sR hsS) hSl hr3 (by rw [zF,zF,List.length_replicate];exact hSl) (vh S0) (by show 3*n≤3*n1+2;omega) ?_
 rw [zF,tk,←wx,List.drop_replicate]
 obtain ⟨R0,hR0⟩:∃R,R=S0++List.replicate (A.length+1-S0.length) 0:=⟨_,rfl⟩
 rw [←hR0]
 have hR0l:R0.length=A.length+1:=by rw [hR0,List.length_append,List.length_replicate];omega
 have hR0d:WdD R0:=by rw [hR0];exact nS.1.append (WdD.zeros _)
 have hR0v:wv R0=wv A*2^s:=by rw [hR0,vU,jC,Nat.mul_zero,Nat.add_zero,hvS]
 generalize hh:upd h3 (3*n1+2) _=h4
 have hr4:h4 (3*n1+2)=some (.row (u64s R0) eR):=by rw [←hh,zg]
 have hx4:Ext n1 h1 h4:=fun b hb=>by rw [←hh,zj zo,hx3 b zo,hx2 b hb]
 clear hh hr3 hr2 hx2 hx3 hsS
 refine zN ?_
 obtain ⟨M,hM⟩:∃M,M=A.length-(m+2):=⟨_,rfl⟩
 repeat refine zR ?_
 rw [show (A.length:Int)-((m+2:Nat):Int)+1=((M+1:Nat):Int) from zo]
 refine vv (len:=M+1) (cap:=M+1) R9 zo ?_
 rw [show zl (Value.int .u64 0)=[Value.int .u64 0] from rfl,xJ]
 generalize hh:upd h4 (3*n3+2) _=h5
 have hq5:∃e,h5 (3*n3+2)=some (.row (u64s (List.replicate (M+1) 0++[])) e):=⟨_,by rw [←hh,zg,List.append_nil]⟩
 obtain ⟨eQ,hq5⟩:=hq5
 have hr5:h5 (3*n1+2)=some (.row (u64s R0) eR):=by rw [←hh,zj zo];exact hr4
 have hx5:Ext n1 h1 h5:=fun b hb=>by rw [←hh,zj zo,hx4 b hb]
 clear hh hr4 hx4
 repeat refine zR ?_
 refine zN ?_
 repeat refine zR ?_
 refine zN ?_
 have hstart:wv (R0.drop (M+1))<wv V:=by
  have h1:=rJ R0 (M+1) zo
  have h2:18446744073709551616^(M+1)*wv (R0.drop (M+1))<18446744073709551616^(M+1)*wv V:=by
   refine Nat.lt_of_le_of_lt (show _≤wv R0 by omega) ?_
   rw [hR0v]
   have h3:(2:Nat)^s≤9223372036854775808:=Nat.pow_le_pow_right zd (show s≤63 by omega)
   have h4:wv A*2^s≤wv A*9223372036854775808:=Nat.mul_le_mul_left _ h3
   have h5:wv A*9223372036854775808<18446744073709551616^A.length*9223372036854775808:=Nat.mul_lt_mul_of_pos_right hAlt zd
   have h6:18446744073709551616^A.length*9223372036854775808=18446744073709551616^(M+1)*(18446744073709551616^(m+1)*9223372036854775808):=by
    rw [←Nat.mul_assoc,←Nat.pow_add,show M+1+(m+1)=A.length from zo]
   have h7:=Nat.mul_le_mul_left (18446744073709551616^(M+1)) hVge
   omega
  exact Nat.lt_of_mul_lt_mul_left h2
 have hV0:0<wv V:=zo
 refine z8 (α:=Nat×List Nat×List Nat) (fun z=>[(8,.int .i64 ((m+2:Nat):Int)),(9,.int .u64 (s:Int)),(10,.slice aV (m+2) cV),(11,.slice (some ⟨3*n1+2,0,none⟩) (A.length+1) (A.length+1)),(12,.slice (some ⟨3*n3+2,0,none⟩) (M+1) (M+1)),(13,.int .i64 ((z.1:Int)-1))])
  (fun z h' n' w=>n'=n3+1∧w=[]∧Ext n1 h1 h'∧h' (3*n1+2)=some (.row (u64s z.2.1) eR)∧h' (3*n3+2)=some (.row (u64s (List.replicate z.1 0++z.2.2)) eQ)∧z.2.1.length=A.length+1∧WdD z.2.1∧z.1≤M+1∧z.2.2.length=M+1-z.1∧WdD z.2.2∧wv A*2^s=wv z.2.1+wv V*wv z.2.2*18446744073709551616^z.1∧wv (z.2.1.drop z.1)<wv V) (fun z=>z.1)
  (M+1,R0,[]) ⟨rfl,rfl,rfl,rfl,rfl,by show Value.int .i64 _=Value.int .i64 _;congr 1;omega,trivial⟩ ⟨rfl,rfl,hx5,hr5,hq5,hR0l,hR0d,Nat.le_refl _,by simp,WdD.nil,by rw [hR0v,show wv []=0 from rfl,Nat.mul_zero,Nat.zero_mul,Nat.add_zero],hstart⟩ (by show M+1<LL;unfold LL;omega) ?_
 clear hr5 hq5 hx5 hstart hR0v hR0d hR0l hR0
 rintro ⟨j,R,Q⟩ t h6 _ _ ⟨rfl,rfl,hx6,hr6,hq6,hRl,hRd,hj,hQl,hQd,hE,hRlt⟩
 simp only at hr6 hq6 hRl hRd hj hQl hQd hE hRlt
 refine zN ?_
 cases j with
 |zero=>
  rw [List.drop_zero] at hRlt
  rw [List.replicate_zero,List.nil_append] at hq6
  rw [Nat.pow_zero,Nat.mul_one,hvV] at hE
  rw [hvV] at hRlt
  obtain ⟨r1,r2⟩:=mQ (U:=wv A) (y:=wv C) (s:=s) (Q:=wv Q) (r:=wv R) (by rw [hE,Nat.add_comm,Nat.mul_comm (wv Q)]) hRlt
  repeat refine zR ?_
  refine zN ?_
  rw [za rfl]
  refine zN ?_
  repeat refine zR ?_
  have htr:=xB (k+3) (h:=h6) (n:=n3+1) (a:=some ⟨3*n3+2,0,none⟩) (len:=M+1) (cap:=M+1) (l:=Q) zo (fun _ e=>by injection e with e;rw [←e]) (xm zo hq6 zo)
  refine zw _ R5 htr ?_
  rintro _ h6 _ _ ⟨rfl,rfl,rfl,rfl,hsq⟩
  repeat refine zR ?_
  have htr2:=xB (k+3) (h:=h6) (n:=n3+1) (a:=some ⟨3*n1+2,0,none⟩) (len:=A.length+1) (cap:=A.length+1) (l:=R) zo (fun _ e=>by injection e with e;rw [←e]) (xm zo hr6 hRl)
  refine zw _ R5 htr2 ?_
  rintro _ h6 _ _ ⟨rfl,rfl,rfl,rfl,hsr⟩
  obtain ⟨tq1,tq2⟩:=wk hQd
  obtain ⟨tr1,tr2⟩:=wk hRd
  repeat refine zR ?_
  refine zw _ R5 (qj (k+2) (m:=s) hsr tr1 (by have:=xZ R;omega)) ?_
  rintro vr h7 n7 _ ⟨L7,⟨rfl,hn7,hx7,hs7,hN7⟩,hv7,hf7⟩
  obtain ⟨a7,l7,c7,rfl,_⟩:=hs7.len
  repeat refine zR ?_
  refine zN ?_
  exact retH [.slice (some ⟨3*n3+2,0,none⟩) (z5 Q).length (M+1),.slice a7 l7 c7] R3 ⟨_,_,_,L7,rfl,rfl,by show n≤n7;omega,fun b hb=>(hx7 b zo).trans ((hx6 b zo).trans (hx1 b hb)),hsq.ext hx7 hn7,tq1,hs7,hN7,by rw [tq2,r1],by rw [hv7,tr2,r2],by show 3*n≤3*n3+2;omega,.inl (hf7.mono zo)⟩
 |succ i=>
 obtain ⟨P,Z,top,S,hPZ,hP,hZ⟩:∃P Z top S,R=P++(Z++top::S)∧P.length=i∧Z.length=m+2:=by
  have hd:(R.drop i).drop (m+2)≠[]:=by
   intro e
   have:=congrArg List.length e
   rw [List.length_drop,List.length_drop,List.length_nil] at this
   omega
  obtain ⟨top,S,hS⟩:=List.exists_cons_of_ne_nil hd
  exact ⟨R.take i,(R.drop i).take (m+2),top,S,by rw [←hS,List.take_append_drop,List.take_append_drop],by rw [List.length_take];omega,by rw [List.length_take,List.length_drop];omega⟩
 subst hPZ hP
 have hSl:S.length+(P.length+m+3)=A.length+1:=by
  rw [←hRl];simp only [List.length_append,List.length_cons];omega
 have hPd:WdD P:=fun d hd=>hRd d (by simp [hd])
 have hZd:WdD Z:=fun d hd=>hRd d (by simp [hd])
 have htl:top<18446744073709551616:=hRd top (by simp)
 have hSd:WdD S:=fun d hd=>hRd d (by simp [hd])
 obtain ⟨hS0,hWlt⟩:=zep hZ hZd hVlt hRlt zo
 have hsV6:=(hsV.ext hx6 (show n1≤n3+1 by omega))
 have hVoff:Off (3*n1+2) (.slice aV (m+2) cV):=hsV.below.off zo
 repeat refine zR ?_
 refine zN ?_
 rw [ze rfl]
 refine zN ?_
 repeat refine zR ?_
 refine qf P.length (P.length+m+3) R9 zo zo zo ?_
 rw [show 0+P.length*1=P.length from zo,show P.length+m+3-P.length=m+3 from zo]
 repeat refine zR ?_
 have hWs:Sl h6 (n3+1) 1 (.slice (some ⟨3*n1+2,P.length,none⟩) (m+3) (A.length+1-P.length)) (u64s (Z++[top])):=by
  have:=jD (h:=h6) (n:=n3+1) (b:=3*n1+2) (cap:=A.length+1-P.length) (P:=P) (Z:=Z++[top]) (S:=S) (e:=eR) zo (by rw [hr6];simp) (by rw [List.length_append,List.length_singleton];omega)
  rw [List.length_append,List.length_singleton,hZ] at this
  exact this
 refine ya _ R5 (kY k hWs hsV6 (m:=m) ⟨by rw [List.length_append,List.length_singleton,hZ],hVl,WdD.snoc hZd htl,nV.1,hVtop,hWlt⟩ zo) ?_
 rintro _ ⟨d,rfl,hdl,hd1,hd2⟩
 repeat refine zR ?_
 refine zN ?_
 repeat refine zR ?_
 refine qf P.length (P.length+(m+2)) R9 zo zo zo ?_
 rw [show 0+P.length*1=P.length from zo,show P.length+(m+2)-P.length=Z.length from zo]
 repeat refine zR ?_
 refine zw _ R5 (fd (k+2) (n:=n3+1) (b:=3*n1+2) zo hr6 zo hZd hsV6 nV.1 hVoff zo zo hdl) ?_
 rintro _ h7 _ w7 ⟨Z1,c,rfl,hcl,⟨hw7,rfl,hx7,hr7⟩,hZ1d,hZ1l,hsub⟩
 try simp only [tU]
 rw [z6 (w:=[]) fun y hy=>by rw [hw7 y hy];show 3*n≤3*n1+2;omega]
 have hZ1:Z1.length=m+2:=zo
 rw [hZ] at hsub
 obtain ⟨g1,g2⟩:=zch hZ1 hZ hZ1d hV0 hsub hd1 hd2
 have hq7:h7 (3*n3+2)=_:=(hx7 _ zo zo).trans hq6
 have hx17:Ext n1 h1 h7:=fun b hb=>by rw [hx7 b zo zo,hx6 b hb]
 clear hx7 hr6 hq6 hWs
 have hsV7:=(hsV.ext hx17 (show n1≤n3+1 by omega))
 have hlen7:∀t',(P++(Z1++t'::S)).length=A.length+1:=fun t'=>by simp only [List.length_append,List.length_cons];omega
 have hget:∀t',(P++(Z1++t'::S))[P.length+(m+2)]?=some t':=fun t'=>by
  rw [List.getElem?_append_right zo,show P.length+(m+2)-P.length=Z1.length from zo,List.getElem?_append_right (Nat.le_refl _),Nat.sub_self]
  rfl
 have hset:∀(Z2:List Nat) t' t'',Z2.length=m+2→(P++(Z2++t'::S)).set (P.length+(m+2)) t''=P++(Z2++t''::S):=fun Z2 t' t'' h2=>by
  rw [List.set_append_right _ _ zo,show P.length+(m+2)-P.length=Z2.length from zo,List.set_append_right _ _ (Nat.le_refl _),Nat.sub_self]
  rfl
 repeat refine zR ?_
 refine zN ?_
 repeat refine zR ?_
 refine yp (f:=fun d:Nat=>Value.int .u64 (d:Int)) (j:=P.length+(m+2)) R7 (xm (n:=n3+1) zo hr7 (hlen7 top)) ⟨rfl,zo⟩ (hget top) (fun _=>rfl) R4 fun _=>?_
 repeat refine zR ?_
 refine zN ?_
 refine zM ?_
 refine zM ?_
 refine zM ?_
 refine zR ?_
 refine zM ?_
 refine zM ?_
 refine uN (a:=top) (b:=c) R6 ⟨htl,hcl⟩ ?_
 obtain ⟨tp,htp⟩:∃x,x=(top+18446744073709551616-c)%18446744073709551616:=⟨_,rfl⟩
 rw [←htp]
 have htpl:tp<18446744073709551616:=by rw [htp];exact Nat.mod_lt _ zd
 refine vO (j:=P.length+(m+2)) (v:=.int .u64 (tp:Int)) R8 zo ⟨zo,by rw [zF,hlen7];omega⟩ hr7 (by show 3*n≤3*n1+2;omega) (fun _=>rfl) R3 (fun _=>rfl) rfl fun _=>?_
 rw [ye,hset Z1 top tp hZ1]
 generalize hh:upd h7 (3*n1+2) _=h8
 have hr8:h8 (3*n1+2)=some (.row (u64s (P++(Z1++tp::S))) eR):=by rw [←hh,zg]
 have hq8:h8 (3*n3+2)=some (.row (u64s (List.replicate (P.length+1) 0++Q)) eQ):=by rw [←hh,zj zo];exact hq7
 have hx8:Ext n1 h1 h8:=fun b hb=>by rw [←hh,zj zo,hx17 b hb]
 clear hh hr7 hq7 hx17 hsV7
 refine zN ?_
 refine zM ?_
 refine zM ?_
 refine pY R6 ?_
 simp only [yE,xE,zK,xz]
 refine yP (α:=List Nat×Nat×Nat) (fun z=>[(8,.int .i64 ((m+2:Nat):Int)),(9,.int .u64 (s:Int)),(10,.slice aV (m+2) cV),(11,.slice (some ⟨3*n1+2,0,none⟩) (A.length+1) (A.length+1)),(12,.slice (some ⟨3*n3+2,0,none⟩) (M+1) (M+1)),(13,.int .i64 (P.length:Int)),(14,.int .u64 (z.2.2:Int))])
  (fun z h' n' w=>n'=n3+1∧w=[]∧Ext n1 h1 h'∧h' (3*n1+2)=some (.row (u64s (P++(z.1++z.2.1::S))) eR)∧h' (3*n3+2)=some (.row (u64s (List.replicate (P.length+1) 0++Q)) eQ)∧z.1.length=m+2∧WdD z.1∧z.2.1<18446744073709551616∧z.2.2=wv (Z++[top])/wv V∧z.2.2<18446744073709551616∧wv (z.1++[z.2.1])=wv (Z++[top])%wv V) ?_ ?_
 ·by_cases hlt2:top<c
  case neg=>
   obtain ⟨h1d,h2d⟩:=g1 zo
   rw [za (by show Value.bool _=_;rw [decide_eq_false zo])]
   refine zN ?_
   have htp':tp=top-c:=zo
   exact zS (Z1,tp,d) ⟨rfl,rfl,rfl,rfl,rfl,by show Value.int .i64 _=Value.int .i64 _;congr 1;omega,rfl,trivial⟩ ⟨rfl,rfl,hx8,hr8,hq8,hZ1,hZ1d,htpl,h1d,hdl,by simp only;rw [htp'];exact h2d⟩
  obtain ⟨h1d,h2d⟩:=g2 hlt2
  have hd1':1≤d:=by rw [h1d];exact Nat.le_add_left _ _
  rw [ze (by show Value.bool _=_;rw [decide_eq_true zo])]
  refine zN ?_
  refine zM ?_
  refine yb (a:=d) (b:=1) R6 zo ?_
  repeat refine zR ?_
  refine zN ?_
  repeat refine zR ?_
  refine zN ?_
  repeat refine zR ?_
  refine zN ?_
  refine z8 (α:=List Nat×Nat) (fun z=>[(8,.int .i64 ((m+2:Nat):Int)),(9,.int .u64 (s:Int)),(10,.slice aV (m+2) cV),(11,.slice (some ⟨3*n1+2,0,none⟩) (A.length+1) (A.length+1)),(12,.slice (some ⟨3*n3+2,0,none⟩) (M+1) (M+1)),(13,.int .i64 (P.length:Int)),(14,.int .u64 ((d-1:Nat):Int)),(17,.int .u64 (z.2:Int)),(113,.slice aV (m+2) cV),(114,.int .i64 ((m+2:Nat):Int)),(115,.int .i64 (z.1.length:Int))])
   (fun z h' n' w=>n'=n3+1∧w=[]∧Ext n1 h1 h'∧h' (3*n1+2)=some (.row (u64s (P++((z.1++Z1.drop z.1.length)++tp::S))) eR)∧h' (3*n3+2)=some (.row (u64s (List.replicate (P.length+1) 0++Q)) eQ)∧z.1.length≤m+2∧WdD z.1∧z.2≤1∧wv z.1+z.2*18446744073709551616^z.1.length=wv (Z1.take z.1.length)+wv (V.take z.1.length)) (fun z=>m+2-z.1.length)
   ([],0) ⟨rfl,rfl,rfl,rfl,rfl,by show Value.int .i64 _=Value.int .i64 _;congr 1;omega,rfl,rfl,rfl,rfl,rfl,trivial⟩ ⟨rfl,rfl,hx8,hr8,hq8,Nat.zero_le _,WdD.nil,by show (0:Nat)≤1;decide,by simp [wv,dv]⟩ (by show m+2-0<LL;unfold LL;omega) ?_
  clear hr8 hq8 hx8
  rintro ⟨D,cc⟩ t h9 _ _ ⟨rfl,rfl,hx9,hr9,hq9,hDl,hDd,hcc,hV2⟩
  simp only at hr9 hDl hDd hcc hV2
  refine zN ?_
  by_cases hDm:D.length=m+2
  ·have hZd0:Z1.drop D.length=[]:=by rw [hDm,←hZ1,List.drop_length]
   rw [hZd0,List.append_nil] at hr9
   rw [hDm,←hZ1,List.take_length,hZ1,←hVl,List.take_length,hVl] at hV2
   repeat refine zR ?_
   refine zN ?_
   rw [za rfl]
   refine zN ?_
   have hDlt:=ws hDd
   rw [hDm] at hDlt
   have hrlt:=Nat.mod_lt (wv (Z++[top])) hV0
   have hyc:c-top=1∧cc=1:=by
    obtain ⟨y,hy⟩:∃y,c-top=y+1:=⟨c-top-1,zo⟩
    rw [hy] at h2d ⊢
    rw [←h2d] at hV2
    generalize 18446744073709551616^(m+2)=PP at*
    have e1:(y+1)*PP=y*PP+PP:=by rw [Nat.add_mul,Nat.one_mul]
    rcases Nat.eq_zero_or_pos y with hy0|hy0
    ·subst hy0
     rcases Nat.eq_zero_or_pos cc with hc0|hc0
     ·subst hc0
      rw [Nat.zero_mul] at hV2
      omega
     exact ⟨rfl,zo⟩
    have e2:1*PP≤y*PP:=Nat.mul_le_mul_right _ hy0
    have e3:cc*PP≤1*PP:=Nat.mul_le_mul_right _ hcc
    omega
   obtain ⟨hy1',rfl⟩:=hyc
   have hDv:wv D=wv (Z++[top])%wv V:=by
    rw [←h2d,hy1'] at hV2
    omega
   have htp':tp=18446744073709551615:=zo
   subst htp'
   repeat refine zR ?_
   refine yp (f:=fun d:Nat=>Value.int .u64 (d:Int)) (j:=P.length+(m+2)) R7 (xm (n:=n3+1) (l:=A.length+1) zo hr9 (by simp only [List.length_append,List.length_cons];omega)) ⟨rfl,zo⟩ (show (P++(D++18446744073709551615::S))[P.length+(m+2)]?=some 18446744073709551615 from by rw [List.getElem?_append_right zo,show P.length+(m+2)-P.length=D.length from zo,List.getElem?_append_right (Nat.le_refl _),Nat.sub_self];rfl) (fun _=>rfl) R4 fun _=>?_
   refine zM ?_
   refine vx (a:=18446744073709551615) (b:=1) R6 ?_
   rw [show (18446744073709551615+1)%18446744073709551616=0 from rfl]
   refine vO (j:=P.length+(m+2)) (v:=.int .u64 ((0:Nat):Int)) R8 zo ⟨zo,by rw [zF];simp only [List.length_append,List.length_cons];omega⟩ hr9 (by show 3*n≤3*n1+2;omega) (fun _=>rfl) R3 (fun _=>rfl) rfl fun _=>?_
   rw [ye,hset D _ 0 hDm]
   repeat refine zR ?_
   refine zN ?_
   exact zS (D,0,d-1) ⟨rfl,rfl,rfl,rfl,rfl,rfl,rfl,trivial⟩ ⟨rfl,rfl,fun b hb=>(zj zo).trans (hx9 b hb),zg _ _ _,(zj zo).trans hq9,hDm,hDd,by show (0:Nat)<_;decide,by show d-1=_;rw [h1d];exact Nat.add_sub_cancel _ _,by show d-1<_;omega,by show wv (D++[0])=_;rw [yH,Nat.mul_zero,Nat.add_zero,hDv]⟩
  obtain ⟨y,hy⟩:∃x,V[D.length]?=some x:=⟨V[D.length]'zo,List.getElem?_eq_getElem zo⟩
  obtain ⟨x,hx⟩:∃x,Z1[D.length]?=some x:=⟨Z1[D.length]'zo,List.getElem?_eq_getElem zo⟩
  have hyl:=nV.1.get hy
  have hxl:=hZ1d.get hx
  have hlen9:(P++((D++Z1.drop D.length)++tp::S)).length=A.length+1:=by simp only [List.length_append,List.length_cons,List.length_drop];omega
  repeat refine zR ?_
  refine zN ?_
  rw [ze rfl]
  refine zN ?_
  repeat refine zR ?_
  refine yp (f:=fun d:Nat=>Value.int .u64 (d:Int)) (j:=D.length) R7 (hsV.ext hx9 (show n1≤n3+1 by omega)) R2 hy (fun _=>rfl) R4 fun _=>?_
  repeat refine zR ?_
  refine zN ?_
  repeat refine zR ?_
  refine yp (f:=fun d:Nat=>Value.int .u64 (d:Int)) (j:=P.length+D.length) R7 (xm (n:=n3+1) zo hr9 hlen9) ⟨rfl,zo⟩ (show (P++((D++Z1.drop D.length)++tp::S))[P.length+D.length]?=some x from by rw [List.getElem?_append_right zo,show P.length+D.length-P.length=D.length from zo,List.getElem?_append_left (by rw [List.length_append,List.length_drop];omega)];exact vE hx) (fun _=>rfl) R4 fun _=>?_
  repeat refine zR ?_
  refine vy (x:=x) (y:=y) (c:=cc) R5 hcc ?_
  obtain ⟨s1,hs1⟩:∃z,z=(x+y+cc)%18446744073709551616:=⟨_,rfl⟩
  obtain ⟨c1,hc1⟩:∃z,z=(x+y+cc)/18446744073709551616:=⟨_,rfl⟩
  rw [←hs1,←hc1]
  repeat refine zR ?_
  refine vO (j:=P.length+D.length) (v:=.int .u64 (s1:Int)) R8 zo ⟨zo,by rw [zF,hlen9];omega⟩ hr9 (by show 3*n≤3*n1+2;omega) (fun _=>rfl) R3 (fun _=>rfl) rfl fun _=>?_
  rw [ye,oj _ hx]
  repeat refine zR ?_
  refine zN ?_
  repeat refine zR ?_
  refine zN ?_
  have hsl:s1<18446744073709551616:=by rw [hs1];exact Nat.mod_lt _ zd
  have hcl1:c1≤1:=by rw [hc1];omega
  have hsc:18446744073709551616*c1+s1=x+y+cc:=by rw [hs1,hc1];omega
  refine goOn (D++[s1],c1) (by show m+2-(D++[s1]).length<m+2-D.length;rw [List.length_append,List.length_singleton];omega) ⟨rfl,rfl,rfl,rfl,rfl,rfl,rfl,rfl,rfl,rfl,by show Value.int .i64 _=Value.int .i64 _;rw [List.length_append];rfl,trivial⟩ ⟨rfl,rfl,fun b hb=>(zj zo).trans (hx9 b hb),zg _ _ _,(zj zo).trans hq9,by show (D++[s1]).length≤_;rw [List.length_append,List.length_singleton];omega,WdD.snoc hDd hsl,hcl1,?_⟩
  simp only
  rw [List.length_append,List.length_singleton,yH,zC hx,zC hy,Nat.pow_succ]
  have:=qW hV2 hsc
  omega
 rintro ⟨Zf,t',q⟩ t h9 _ _ ⟨rfl,rfl,hx9,hr9,hq9,hZf,hZfd,ht',hqe,hql,hmod⟩
 simp only at hr9 hZf hZfd ht' hqe hql hmod
 refine zN ?_
 repeat refine zR ?_
 refine vO (j:=P.length) (v:=.int .u64 (q:Int)) R8 rfl ⟨zo,by rw [zF,List.length_append,List.length_replicate];omega⟩ hq9 (by show 3*n≤3*n3+2;omega) (fun _=>rfl) R3 (fun _=>rfl) rfl fun _=>?_
 rw [ye,jS]
 repeat refine zR ?_
 refine zN ?_
 repeat refine zR ?_
 refine zN ?_
 have hWW:wv (Zf++[t'])+wv V*q=wv (Z++[top]):=by rw [hmod,hqe,Nat.add_comm];exact Nat.div_add_mod _ _
 have hstep:=zf5 (P:=P) (S:=S) (V:=V) (Q:=Q) (hZf.trans hZ.symm) hWW hE
 refine goOn (P.length,P++(Zf++t'::S),q::Q) (by show P.length<P.length+1;omega) ⟨rfl,rfl,rfl,rfl,rfl,rfl,trivial⟩ ⟨rfl,rfl,fun b hb=>(zj zo).trans (hx9 b hb),(zj zo).trans hr9,zg _ _ _,by simp only [List.length_append,List.length_cons];omega,hPd.append (hZfd.append (fun x hx=>by
  rcases List.mem_cons.1 hx with rfl|hx
  ·exact ht'
  ·exact hSd x hx)),by show P.length≤_;omega,by show (q::Q).length=_;rw [List.length_cons];omega,fun x hx=>by
  rcases List.mem_cons.1 hx with rfl|hx
  ·exact hql
  ·exact hQd x hx,hstep,?_⟩
 simp only
 rw [List.drop_left' rfl,show Zf++t'::S=(Zf++[t'])++S from by simp,vU,hS0,Nat.mul_zero,Nat.add_zero,hmod]
 exact Nat.mod_lt _ hV0
end
end Go.Proofs.YtdcfbgmbaniglaaGreatDoor
namespace Go.Proofs.YtdcfbgmbaniglaaGreatDoor
variable {B m r0 r1 u u0 u1 v1 v2:Nat}{odd:Bool}
def sg (odd:Bool):Int:=if odd then -1 else 1
theorem px (o:Bool):sg (!o)= - sg o:=by cases o<;>rfl
theorem zha (o:Bool):sg o*sg o=1:=by cases o<;>rfl
def lp (A B:Nat)(s:Int)(u v:Nat):Int:=s*((u:Int)*A-(v:Int)*B)
structure LehS (A B r0 r1 E:Nat):Prop where
 a:E*r0≤A∧A<E*r0+E
 b:E*r1≤B∧B<E*r1+E
 le:B≤A
 pos:1≤B
structure Leh (A B r0 r1:Nat)(x y u0 u1 u2 v0 v1 v2:Nat)(odd:Bool):Prop where
 hx:(x:Int)=lp r0 r1 (sg odd) u1 v1
 hy:(y:Int)=lp r0 r1 (- sg odd) u2 v2
 det:(u1:Int)*v2-u2*v1=sg odd
 le:u2≤v2∧u1+u2≤v1+v2∧1≤v2
 yx:y≤x
 gcd:Int.gcd (lp A B (sg odd) u1 v1) (lp A B (- sg odd) u2 v2)=Nat.gcd A B
 sum:(v1=0∧u1=1∧u2=0∧v2=1∧odd=false)∨(1≤v1∧lp A B (sg odd) u1 v1+lp A B (- sg odd) u2 v2≤A∧lp A B (sg odd) u1 v1≤B)
 out:v0=0∨(0≤lp A B (sg odd) u1 v1∧lp A B (sg odd) u1 v1≤lp A B (- sg odd) u0 v0∧Int.gcd (lp A B (- sg odd) u0 v0) (lp A B (sg odd) u1 v1)=Nat.gcd A B∧lp A B (- sg odd) u0 v0+lp A B (sg odd) u1 v1≤A∧lp A B (- sg odd) u0 v0≤B)
theorem Leh.init {A:Nat}(h:r1≤r0):Leh A B r0 r1 r0 r1 0 1 0 0 0 1 false:=by
 refine ⟨by simp [lp,sg],by simp [lp,sg],by simp [sg],zo,h,by simp [lp,sg],.inl ⟨rfl,rfl,rfl,rfl,rfl⟩,.inl rfl⟩
theorem zdz {A E:Nat}(hs:LehS A B r0 r1 E){s:Int}(hs1:s=1∨s= -1){v z:Nat}(hz:(z:Int)=lp r0 r1 s u v)(hu:u≤m)(hv:v≤m)(hm:m≤z):0≤lp A B s u v:=by
 obtain ⟨α,hα⟩:∃α,A=E*r0+α:=⟨A-E*r0,by have:=hs.a;omega⟩
 obtain ⟨β,hβ⟩:∃β,B=E*r1+β:=⟨B-E*r1,by have:=hs.b;omega⟩
 have ha:α<E:=by have:=hs.a;omega
 have hb:β<E:=by have:=hs.b;omega
 have h1:u*α≤z*E:=Nat.mul_le_mul zo zo
 have h2:v*β≤z*E:=Nat.mul_le_mul zo zo
 have h1':(u:Int)*α≤z*E:=by exact_mod_cast h1
 have h2':(v:Int)*β≤z*E:=by exact_mod_cast h2
 have h3:(0:Int)≤(u:Int)*α:=by exact_mod_cast Nat.zero_le (u*α)
 have h4:(0:Int)≤(v:Int)*β:=by exact_mod_cast Nat.zero_le (v*β)
 have e:lp A B s u v=z*E+s*(u*α - v*β):=by
  rw [hz]
  unfold lp
  rw [hα,hβ]
  push_cast
  grind
 rw [e]
 rcases hs1 with rfl|rfl<;>omega
theorem zbe (o:Bool):sg o=1∨sg o= -1:=by cases o<;>simp [sg]
theorem dX (o:Bool): - sg o=1∨ - sg o= -1:=by cases o<;>simp [sg]
theorem zd0 (A B:Nat)(s:Int)(u v u' v':Nat):lp A B s u v+lp A B s u' v'=lp A B s (u+u') (v+v'):=by
 unfold lp;push_cast;grind
theorem my (A B:Nat)(s:Int)(u v:Nat):lp A B (- s) u v= - lp A B s u v:=by
 unfold lp;grind
theorem Leh.step {A E x y u2 v0:Nat}(hs:LehS A B r0 r1 E)(h:Leh A B r0 r1 x y u0 u1 u2 v0 v1 v2 odd)(c1:v2≤y)(c2:v1+v2≤x-y):
  Leh A B r0 r1 y (x%y) u1 u2 (u1+x/y*u2) v1 v2 (v1+x/y*v2) (!odd)∧u1+x/y*u2≤r0∧v1+x/y*v2≤r0∧x%y<y∧1≤y:=by
 obtain ⟨hx,hy,det,⟨l1,l2,l3⟩,yx,hg,hsum,hout⟩:=h
 have hy1:1≤y:=zo
 have hmod:x%y<y:=Nat.mod_lt _ hy1
 have hq1:1≤x/y:=(Nat.one_le_div_iff hy1).2 yx
 have hdm:x%y+x/y*y=x:=by rw [Nat.mul_comm];exact Nat.mod_add_div x y
 generalize hqq:x/y=q at*
 generalize hrr:x%y=r at*
 -- the pair at hand
 have p2:0≤lp A B (- sg odd) u2 v2:=zdz hs (dX odd) hy l1 (Nat.le_refl _) c1
 have p12:0≤lp A B (sg odd) (u1+u2) (v1+v2):=by
  refine zdz hs (zbe odd) (z:=x-y) ?_ l2 (Nat.le_refl _) c2
  rw [←zd0,Int.natCast_sub yx,hx,hy,my]
  omega
 rw [←zd0] at p12
 have hP2:lp A B (- sg odd) u2 v2= - lp A B (sg odd) u2 v2:=my ..
 have hnew:lp A B (sg odd) (u1+q*u2) (v1+q*v2)=lp A B (sg odd) u1 v1-q*lp A B (- sg odd) u2 v2:=by
  rw [my];unfold lp;push_cast;grind
 have hqP:lp A B (- sg odd) u2 v2≤q*lp A B (- sg odd) u2 v2:=by
  have:=Int.mul_le_mul_of_nonneg_right (show (1:Int)≤q by omega) p2
  omega
 have hr0:(r0:Int)=v2*x+v1*y:=by
  rw [hx,hy,my]
  unfold lp
  have e1:=zha odd
  rw [←det] at*
  grind
 have hr0':r0=v2*x+v1*y:=by exact_mod_cast hr0
 have hbv:v1+q*v2≤r0:=by
  rw [hr0',←hdm]
  have e1:v1≤v1*y:=Nat.le_mul_of_pos_right _ hy1
  have e2:q*v2≤q*v2*y:=Nat.le_mul_of_pos_right _ hy1
  have e3:v2*(r+q*y)=v2*r+q*v2*y:=by grind
  omega
 have hbu:u1+q*u2≤v1+q*v2:=by
  obtain ⟨p,rfl⟩:∃p,q=p+1:=⟨q-1,zo⟩
  have e1:p*u2≤p*v2:=Nat.mul_le_mul_left _ l1
  have e2:(p+1)*u2=p*u2+u2:=Nat.succ_mul _ _
  have e3:(p+1)*v2=p*v2+v2:=Nat.succ_mul _ _
  omega
 refine ⟨⟨?_,?_,?_,?_,Nat.le_of_lt hmod,?_,?_,?_⟩,Nat.le_trans hbu hbv,hbv,hmod,hy1⟩
 ·rw [px];exact hy
 ·rw [px,Int.neg_neg]
  have:(r:Int)=x-q*y:=by (have:(x:Int)=r+q*y:=by exact_mod_cast hdm.symm);omega
  rw [this,hx,hy]
  unfold lp;push_cast;grind
 ·rw [px,←det];push_cast;grind
 ·refine ⟨hbu,zo,zo⟩
 ·rw [px,Int.neg_neg,hnew,←hg]
  rw [Int.gcd_comm]
  simp [Int.mul_comm]
 ·right
  rw [px,Int.neg_neg,hnew]
  rcases hsum with ⟨rfl,rfl,rfl,rfl,rfl⟩|⟨_,h2,h3⟩
  ·have eA:lp A B (sg false) 1 0=A:=by simp [lp,sg]
   have eB:lp A B (- sg false) 0 1=B:=by simp [lp,sg]
   rw [eB] at hqP
   rw [eA,eB]
   exact ⟨zo,zo,zo⟩
  exact ⟨zo,zo,zo⟩
 rw [px,Int.neg_neg]
 rcases hsum with ⟨h1,_⟩|⟨_,h2,h3⟩
 ·exact .inl h1
 right
 exact ⟨p2,zo,hg,zo,h3⟩
theorem Leh.tot {A x y u2 v0:Nat}(h:Leh A B r0 r1 x y u0 u1 u2 v0 v1 v2 odd):r0=v2*x+v1*y:=by
 obtain ⟨hx,hy,det,_,_,_,_,_⟩:=h
 have hr0:(r0:Int)=v2*x+v1*y:=by
  rw [hx,hy,my]
  unfold lp
  have e1:=zha odd
  rw [←det] at*
  grind
 exact_mod_cast hr0
theorem LehS.r_le {A E:Nat}(h:LehS A B r0 r1 E):r1≤r0:=by
 rcases Nat.lt_or_ge r0 r1 with hl|hl
 ·have h1:=Nat.mul_le_mul_left E hl
  rw [Nat.mul_succ] at h1
  have:=h.a
  have:=h.b
  have:=h.le
  omega
 exact hl
theorem Leh.done {A x y u2 v0:Nat}(h:Leh A B r0 r1 x y u0 u1 u2 v0 v1 v2 odd)(hv:v0≠0):
  ∃a b:Nat,(odd=false→v0*B=u0*A+a∧u1*A=v1*B+b)∧(odd=true→u0*A=v0*B+a∧v1*B=u1*A+b)∧b≤a∧Nat.gcd a b=Nat.gcd A B∧a+b≤A∧a≤B:=by
 rcases h.out with h0|⟨h1,h2,h3,h4,h5⟩
 ·exact absurd h0 hv
 generalize e1:lp A B (sg odd) u1 v1=b at*
 generalize e2:lp A B (- sg odd) u0 v0=a at*
 obtain ⟨b',rfl⟩:=Int.eq_ofNat_of_zero_le h1
 obtain ⟨a',rfl⟩:=Int.eq_ofNat_of_zero_le (show (0:Int)≤a by omega)
 refine ⟨a',b',?_,?_,zo,by simpa using h3,zo,zo⟩
 ·rintro rfl
  simp only [lp,sg] at e1 e2
  constructor
  ·have:(v0:Int)*B=u0*A+a':=by simp at e2;grind
   exact_mod_cast this
  have:(u1:Int)*A=v1*B+b':=by simp at e1;grind
  exact_mod_cast this
 rintro rfl
 simp only [lp,sg] at e1 e2
 constructor
 ·have:(u0:Int)*A=v0*B+a':=by simp at e2;grind
  exact_mod_cast this
 have:(v1:Int)*B=u1*A+b':=by simp at e1;grind
 exact_mod_cast this
end Go.Proofs.YtdcfbgmbaniglaaGreatDoor
namespace Go.Proofs.YtdcfbgmbaniglaaGreatDoor
open Go Go.GL
variable {h h' h0:HF}{P U c1 c2 l1 l2 m n V b c' d u0 u1 v1 B len lo n' bb bt m' n0 off sz:Nat}{a1 a2:Option Addr}{A C X S Z T L:List Nat}{eB e' xT ty:TypeId}{odd:Bool}{v z:Value}{c args cl cs vs:List Value}{f:FuncId}{fn:Func}
section
theorem qI (k:Nat)(hA:Sl h n 1 (.slice a1 l1 c1) (u64s A))(hC:Sl h n 1 (.slice a2 l2 c2) (u64s C))(nA:NW A)(nC:NW C)(hb:A.length<10000000∧C.length<80)(hC0:0<wv C):
  CF (cal (k+6)) 114 [.slice a1 l1 c1,.slice a2 l2 c2] h n fun v h' n' w=>∃vq vr Lq Lr,v=.tuple #[vq,vr]∧w=[]∧n≤n'∧Ext n h h'∧Sl h' n' 1 vq (u64s Lq)∧NW Lq∧Sl h' n' 1 vr (u64s Lr)∧NW Lr∧wv Lq=wv A/wv C∧wv Lr=wv A%wv C∧yO n vq∧(yO n vr∨vr=.slice a1 l1 c1):=by
 refine zv (fn:=Tryz.f114) R4 ?_
 have e1:=hA.lenW
 have e2:=hC.lenW
 subst e1 e2
 refine zN ?_
 repeat refine zR ?_
 refine zN ?_
 repeat refine zR ?_
 refine zN ?_
 rw [za rfl]
 refine zN ?_
 refine zM ?_
 refine zM ?_
 refine zw _ R5 (mP k hA hC nA nC zo hC0) ?_
 rintro _ h1 n1 _ ⟨vq,vr,Lq,Lr,rfl,rfl,hn1,hx1,hsq,hnq,hsr,hnr,hq,hr,hfq,hfr⟩
 obtain ⟨aq,lq,cq,rfl,_⟩:=hsq.len
 obtain ⟨ar,lr,cr,rfl,_⟩:=hsr.len
 repeat refine zR ?_
 refine zN ?_
 exact retH [.slice aq lq cq,.slice ar lr cr] R3 ⟨_,_,Lq,Lr,rfl,rfl,hn1,hx1,hsq,hnq,hsr,hnr,hq,hr,hfq,hfr⟩
theorem lM {x0 x1 s:Nat}(hU:U<P)(hs:s≤64):P*2^(64-s)*(x1*2^s+x0/2^(64-s))≤U+P*(x0+18446744073709551616*x1)∧U+P*(x0+18446744073709551616*x1)<P*2^(64-s)*(x1*2^s+x0/2^(64-s))+P*2^(64-s):=by
 have h1:=Nat.div_add_mod x0 (2^(64-s))
 have h2:=Nat.mod_lt x0 (Nat.pow_pos (n:=64-s) (show 0<2 by decide))
 have h3:=lI hs
 generalize 2^(64-s)=D at*
 generalize 2^s=S at*
 have e:x0+18446744073709551616*x1=D*(x1*S+x0/D)+x0%D:=by
  have h4:D*(x1*S)=18446744073709551616*x1:=by rw [Nat.mul_left_comm,←h3,Nat.mul_comm]
  rw [Nat.mul_add,h4]
  omega
 generalize x1*S+x0/D=R at*
 generalize x0%D=m at*
 rw [e,Nat.mul_add,←Nat.mul_assoc]
 have h4:=Nat.mul_le_mul_left P (show m+1≤D from h2)
 rw [Nat.mul_succ] at h4
 omega
theorem pP {x0 x1:Nat}(hl:X.length=m+2)(h0:X[m]?=some x0)(h1:X[m+1]?=some x1):wv X=wv (X.take m)+18446744073709551616^m*(x0+18446744073709551616*x1):=by
 have e:wv X=wv (X.take (m+2)):=by rw [←hl,List.take_length]
 rw [e,zC h1,zC h0,Nat.pow_succ,Nat.mul_add,Nat.mul_assoc,Nat.add_assoc]
theorem zeo {x0:Nat}(hl:X.length=m+1)(h0:X[m]?=some x0):wv X=wv (X.take m)+18446744073709551616^m*x0:=by
 have e:wv X=wv (X.take (m+1)):=by rw [←hl,List.take_length]
 rw [e,zC h0]
theorem uo (hX:WdD X)(hm:m≤X.length):wv (X.take m)<18446744073709551616^m:=by
 have:=ws (hX.take m)
 rw [List.length_take,Nat.min_eq_left hm] at this
 exact this
theorem zg2 {x0 x1 y0 y1:Nat}(hA:A.length=m+2)(hC:C.length=m+2)(dA:WdD A)(hx0:A[m]?=some x0)(hx1:A[m+1]?=some x1)(hy0:C[m]?=some y0)(hy1:C[m+1]?=some y1)(hle:wv C≤wv A):y1≤x1:=by
 rcases Nat.lt_or_ge x1 y1 with h|h
 ·have h1:=uo dA (m:=m) zo
  have h2:=dA.get hx0
  rw [pP hA hx0 hx1,pP hC hy0 hy1] at hle
  generalize 18446744073709551616^m=P at*
  have h3:x0+18446744073709551616*x1+1≤y0+18446744073709551616*y1:=zo
  have h4:=Nat.mul_le_mul_left P h3
  rw [Nat.mul_succ] at h4
  omega
 exact h
def SimR (A B:Nat)(v:Value):Prop:=∃x y u0 u1 u2 v0 v1 v2 r0 r1:Nat,∃odd:Bool,v=.agg #[.int .u64 (u0:Int),.int .u64 (u1:Int),.int .u64 (v0:Int),.int .u64 (v1:Int),.bool odd]∧Leh A B r0 r1 x y u0 u1 u2 v0 v1 v2 odd∧u0≤18446744073709551615∧u1≤18446744073709551615∧v0≤18446744073709551615∧v1≤18446744073709551615
structure LSt where
 x:Nat
 y:Nat
 u0:Nat
 u1:Nat
 u2:Nat
 v0:Nat
 v1:Nat
 v2:Nat
 odd:Bool
def LSt.row (z:LSt):List Value:=[.int .u64 (z.u0:Int),.int .u64 (z.u1:Int),.int .u64 (z.v0:Int),.int .u64 (z.v1:Int),.bool z.odd]
def LSt.bd (z:LSt):Prop:=z.x≤18446744073709551615∧z.u0≤18446744073709551615∧z.u1≤18446744073709551615∧z.u2≤18446744073709551615∧z.v0≤18446744073709551615∧z.v1≤18446744073709551615∧z.v2≤18446744073709551615
theorem kc (k:Nat)(hA:Sl h n 1 (.slice a1 l1 c1) (u64s A))(hC:Sl h n 1 (.slice a2 l2 c2) (u64s C))(nA:NW A)(nC:NW C)(hb:A.length<10000000)(hle:wv C≤wv A)(hA2:2≤A.length)(hC0:0<wv C):
  CF (cal (k+3)) 113 [.slice a1 l1 c1,.slice a2 l2 c2] h n fun v h' n' w=>w=[]∧n≤n'∧Ext n h h'∧SimR (wv A) (wv C) v:=by
 refine zv (fn:=Tryz.f113) R4 ?_
 have e1:=hA.lenW
 have e2:=hC.lenW
 subst e1 e2
 have hCA:C.length≤A.length:=by
  rcases Nat.lt_or_ge A.length C.length with hl|hl
  ·have:=nA.len_lt nC hl;omega
  exact hl
 obtain ⟨m,hm⟩:∃m,A.length=m+2:=⟨A.length-2,zo⟩
 obtain ⟨x1,hx1⟩:∃x,A[m+1]?=some x:=⟨A[m+1]'zo,List.getElem?_eq_getElem zo⟩
 obtain ⟨x0,hx0⟩:∃x,A[m]?=some x:=⟨A[m]'zo,List.getElem?_eq_getElem zo⟩
 have hx1l:=nA.1.get hx1
 have hx0l:=nA.1.get hx0
 have hx10:x1≠0:=by
  obtain ⟨i,d,hid⟩:=Go.Proofs.YtdcfbgmbaniglaaGreatDoor.snoc (l:=A) (by intro e;rw [e] at hm;simp at hm)
  have hil:i.length=m+1:=by rw [hid] at hm;simp at hm;omega
  rw [hid,←hil,List.getElem?_append_right (Nat.le_refl _),Nat.sub_self] at hx1
  have:d=x1:=by simpa using hx1
  rw [←this]
  exact NW.last (by rw [←hid];exact nA)
 rw [hm] at hA ⊢
 refine zN ?_
 refine yR R5 ?_
 generalize hh:upd h (3*n+2) _=h1
 have hE1:Ext n h h1:=by rw [←hh];exact Ext.upd zo
 have q1:∃e,h1 (3*n+2)=some (.row [.int .u64 0,.int .u64 0,.int .u64 0,.int .u64 0,.bool false] e):=⟨_,by rw [←hh,zg];rfl⟩
 clear hh
 have hA1:=hA.ext hE1 (Nat.le_succ n)
 have hC1:=hC.ext hE1 (Nat.le_succ n)
 refine zN ?_
 repeat refine zR ?_
 refine zN ?_
 repeat refine zR ?_
 refine yp (f:=fun d:Nat=>Value.int .u64 (d:Int)) (j:=m+1) R7 hA1 ⟨rfl,zo⟩ hx1 (fun _=>rfl) R4 fun _=>?_
 refine ya _ R5 (kw k h1 (n+1) hx1l hx10) ?_
 rintro _ ⟨s,rfl,hs64,hs1,hs2⟩
 refine uO (c:=s) R7 zo ?_
 repeat refine zR ?_
 refine zN ?_
 have hlo:∀x,x<18446744073709551616→x/2^(64-s)<2^s:=fun x hx=>zdn zo hx
 obtain ⟨r0,hr0⟩:∃r,r=x1*2^s+x0/2^(64-s):=⟨_,rfl⟩
 have hr0l:r0≤18446744073709551615:=by
  have:=dW (w:=x1) (s:=s) zo (hlo x0 hx0l)
  rw [Nat.mod_eq_of_lt hs2] at this
  omega
 obtain ⟨E,hE⟩:∃E,E=18446744073709551616^m*2^(64-s):=⟨_,rfl⟩
 have hcutA:=lM (U:=wv (A.take m)) (x0:=x0) (x1:=x1) (s:=s) (uo nA.1 zo) zo
 rw [←pP hm hx0 hx1,←hE,←hr0] at hcutA
 rw [xF rfl]
 repeat refine zR ?_
 refine yp (f:=fun d:Nat=>Value.int .u64 (d:Int)) (j:=m+1) R7 hA1 ⟨rfl,zo⟩ hx1 (fun _=>rfl) R4 fun _=>?_
 refine zM ?_
 refine xt (a:=x1) (s:=s) R6 zo ?_
 rw [Nat.mod_eq_of_lt hs2]
 repeat refine zR ?_
 refine yp (f:=fun d:Nat=>Value.int .u64 (d:Int)) (j:=m) R7 hA1 ⟨rfl,zo⟩ hx0 (fun _=>rfl) R4 fun _=>?_
 refine zM ?_
 refine yb (a:=64) (b:=s) R6 zo ?_
 refine yc (a:=x0) (s:=64-s) R6 zo ?_
 refine wa (a:=x1*2^s) (b:=x0/2^(64-s)) R6 ⟨hs2,Nat.lt_of_le_of_lt (Nat.div_le_self _ _) hx0l⟩ ?_
 rw [mb (hlo x0 hx0l),←hr0]
 repeat refine zR ?_
 refine zN ?_
 repeat refine zR ?_
 refine zN ?_
 repeat refine zR ?_
 simp only [yE,xE,zK,xz]
 refine yP (α:=Nat) (fun z=>[(4,.pointer (some ⟨3*n+2,0,none⟩)),(7,.int .u64 (r0:Int)),(8,.int .u64 (z:Int))])
  (fun z h' n' w=>h1=h'∧n+1=n'∧w=[]∧LehS (wv A) (wv C) r0 z E) ?_ ?_
 ·refine zN ?_
  by_cases hl2:C.length=m+2
  ·obtain ⟨y1,hy1⟩:∃x,C[m+1]?=some x:=⟨C[m+1]'zo,List.getElem?_eq_getElem zo⟩
   obtain ⟨y0,hy0⟩:∃x,C[m]?=some x:=⟨C[m]'zo,List.getElem?_eq_getElem zo⟩
   have hy1l:=nC.1.get hy1
   have hy0l:=nC.1.get hy0
   have hyx:=zg2 hm hl2 nA.1 hx0 hx1 hy0 hy1 hle
   have hys:y1*2^s<18446744073709551616:=Nat.lt_of_le_of_lt (Nat.mul_le_mul_right _ hyx) hs2
   have hcutC:=lM (U:=wv (C.take m)) (x0:=y0) (x1:=y1) (s:=s) (uo nC.1 zo) zo
   rw [←pP hl2 hy0 hy1,←hE] at hcutC
   repeat refine zR ?_
   refine zN ?_
   rw [ze rfl]
   rw [xF rfl]
   repeat refine zR ?_
   refine yp (f:=fun d:Nat=>Value.int .u64 (d:Int)) (j:=m+1) R7 hC1 ⟨rfl,zo⟩ hy1 (fun _=>rfl) R4 fun _=>?_
   refine zM ?_
   refine xt (a:=y1) (s:=s) R6 zo ?_
   rw [Nat.mod_eq_of_lt hys]
   repeat refine zR ?_
   refine yp (f:=fun d:Nat=>Value.int .u64 (d:Int)) (j:=m) R7 hC1 ⟨rfl,zo⟩ hy0 (fun _=>rfl) R4 fun _=>?_
   refine zM ?_
   refine yb (a:=64) (b:=s) R6 zo ?_
   refine yc (a:=y0) (s:=64-s) R6 zo ?_
   refine wa (a:=y1*2^s) (b:=y0/2^(64-s)) R6 ⟨hys,Nat.lt_of_le_of_lt (Nat.div_le_self _ _) hy0l⟩ ?_
   rw [mb (hlo y0 hy0l)]
   repeat refine zR ?_
   refine zN ?_
   exact zS (y1*2^s+y0/2^(64-s)) ⟨rfl,rfl,rfl,trivial⟩ ⟨rfl,rfl,rfl,⟨hcutA,hcutC,hle,hC0⟩⟩
  repeat refine zR ?_
  refine zN ?_
  rw [za rfl]
  refine zN ?_
  by_cases hl1:C.length=m+1
  ·obtain ⟨y0,hy0⟩:∃x,C[m]?=some x:=⟨C[m]'zo,List.getElem?_eq_getElem zo⟩
   have hy0l:=nC.1.get hy0
   have hcutC:=lM (U:=wv (C.take m)) (x0:=y0) (x1:=0) (s:=s) (uo nC.1 zo) zo
   rw [Nat.mul_zero,Nat.add_zero,Nat.zero_mul,Nat.zero_add,←zeo hl1 hy0,←hE] at hcutC
   repeat refine zR ?_
   refine zN ?_
   rw [ze rfl]
   refine zN ?_
   repeat refine zR ?_
   refine yp (f:=fun d:Nat=>Value.int .u64 (d:Int)) (j:=m) R7 hC1 ⟨rfl,zo⟩ hy0 (fun _=>rfl) R4 fun _=>?_
   refine zM ?_
   refine yb (a:=64) (b:=s) R6 zo ?_
   refine yc (a:=y0) (s:=64-s) R6 zo ?_
   repeat refine zR ?_
   refine zN ?_
   exact zS (y0/2^(64-s)) ⟨rfl,rfl,rfl,trivial⟩ ⟨rfl,rfl,rfl,⟨hcutA,hcutC,hle,hC0⟩⟩
  repeat refine zR ?_
  refine zN ?_
  rw [za rfl]
  refine zN ?_
  refine zS 0 ⟨rfl,rfl,rfl,trivial⟩ ⟨rfl,rfl,rfl,⟨hcutA,⟨by rw [Nat.mul_zero];exact Nat.zero_le _,?_⟩,hle,hC0⟩⟩
  have g1:=ws nC.1
  have g2:18446744073709551616^C.length≤18446744073709551616^m:=Nat.pow_le_pow_right zd zo
  have g3:18446744073709551616^m*1≤18446744073709551616^m*2^(64-s):=Nat.mul_le_mul_left _ (Nat.pow_pos zd)
  rw [hE,Nat.mul_zero]
  omega
 clear hcutA hE hr0 hlo hA1 hC1
 rintro r1 t _ _ _ ⟨rfl,rfl,rfl,hS⟩
 have hr10:=hS.r_le
 refine zN ?_
 refine yR R5 ?_
 generalize hh:upd h1 (3*(n+1)+2) _=h2
 have hE2:Ext n h h2:=fun b hb=>by rw [←hh,zj zo,hE1 b hb]
 have q1':∃e,h2 (3*n+2)=some (.row [.int .u64 0,.int .u64 0,.int .u64 0,.int .u64 0,.bool false] e):=by
  obtain ⟨e,q1⟩:=q1
  exact ⟨e,by rw [←hh,zj zo];exact q1⟩
 have q2:∃e,h2 (3*(n+1)+2)=some (.row [.int .u64 0,.int .u64 0,.int .u64 0,.int .u64 0,.bool false] e):=⟨_,by rw [←hh,zg];rfl⟩
 obtain ⟨e2,q2⟩:=q2
 clear hh
 refine zN ?_
 repeat refine zR ?_
 refine ym (cs:=[.int .u64 1]) R8 q2 zb (by show 3*n≤3*(n+1)+2;omega) ?_
 generalize hh:upd h2 (3*(n+1)+2) _=h3
 have hE3:Ext n h h3:=fun b hb=>by rw [←hh,zj zo,hE2 b hb]
 have q1'':∃e,h3 (3*n+2)=some (.row [.int .u64 0,.int .u64 0,.int .u64 0,.int .u64 0,.bool false] e):=by
  obtain ⟨e,q1'⟩:=q1'
  exact ⟨e,by rw [←hh,zj zo];exact q1'⟩
 have q3:∃e,h3 (3*(n+1)+2)=some (.row (LSt.row ⟨r0,r1,0,1,0,0,0,1,false⟩) e):=⟨e2,by rw [←hh,zg];rfl⟩
 clear hh q2 q1'
 refine zN ?_
 repeat refine zR ?_
 refine zN ?_
 refine z8 (α:=LSt) (fun z=>[(4,.pointer (some ⟨3*n+2,0,none⟩)),(7,.int .u64 (z.x:Int)),(8,.int .u64 (z.y:Int)),(9,.pointer (some ⟨3*(n+1)+2,0,none⟩)),(10,.int .u64 (z.u2:Int)),(11,.int .u64 (z.v2:Int))])
  (fun z h' n' w=>n'=n+1+1∧w=[]∧Ext n h h'∧(∃e,h' (3*n+2)=some (.row [.int .u64 0,.int .u64 0,.int .u64 0,.int .u64 0,.bool false] e))∧(∃e,h' (3*(n+1)+2)=some (.row z.row e))∧Leh (wv A) (wv C) r0 r1 z.x z.y z.u0 z.u1 z.u2 z.v0 z.v1 z.v2 z.odd∧z.bd) (fun z=>z.y)
  ⟨r0,r1,0,1,0,0,0,1,false⟩ ⟨rfl,rfl,rfl,rfl,rfl,rfl,trivial⟩ ⟨rfl,rfl,hE3,q1'',q3,Leh.init hr10,hr0l,(show (0:Nat)≤18446744073709551615 by decide),(show (1:Nat)≤18446744073709551615 by decide),(show (0:Nat)≤18446744073709551615 by decide),(show (0:Nat)≤18446744073709551615 by decide),(show (0:Nat)≤18446744073709551615 by decide),(show (1:Nat)≤18446744073709551615 by decide)⟩ (by show r1<LL;unfold LL;omega) ?_
 clear hE1 hE2 hE3 q1 q1'' q3
 rintro ⟨x,y,u0,u1,u2,v0,v1,v2,odd⟩ t h4 _ _ ⟨rfl,rfl,hE4,⟨e1,q1⟩,⟨e4,q4⟩,hL,hbd⟩
 obtain ⟨b1,b2,b3,b4,b5,b6,b7⟩:=hbd
 simp only [LSt.row] at q4 hL b1 b2 b3 b4 b5 b6 b7
 have hyx:=hL.yx
 have htot:=hL.tot
 have hl:=hL.le
 refine zN ?_
 by_cases g1:v2≤y
 case neg=>
  repeat refine zR ?_
  refine zN ?_
  rw [za rfl]
  refine zN ?_
  refine zV (v:=.agg #[.int .u64 (u0:Int),.int .u64 (u1:Int),.int .u64 (v0:Int),.int .u64 (v1:Int),.bool odd]) R5 (yo R2 q4 rfl zb rfl) ?_
  refine zX [.int .u64 (u0:Int),.int .u64 (u1:Int),.int .u64 (v0:Int),.int .u64 (v1:Int),.bool odd] R8 q1 rfl (by show 3*n≤3*n+2;omega) ?_
  refine zN ?_
  exact uR R5 (zg _ _ _) rfl ⟨rfl,by show n≤n+1+1;omega,fun b hb=>(zj zo).trans (hE4 b hb),⟨x,y,u0,u1,u2,v0,v1,v2,r0,r1,odd,rfl,hL,b2,b3,b5,b6⟩⟩
 have hsum:v1+v2≤r0:=by
  have f1:v2*1≤v2*x:=Nat.mul_le_mul_left _ zo
  have f2:v1*1≤v1*y:=Nat.mul_le_mul_left _ zo
  omega
 refine zM ?_
 refine zM ?_
 refine zR ?_
 refine zM ?_
 refine zM ?_
 refine zM ?_
 refine yb (a:=x) (b:=y) R6 zo ?_
 refine zM ?_
 refine zO R6 q4 (v:=.int .u64 (v1:Int)) R2 ?_
 refine zM ?_
 refine yA (a:=v1) (b:=v2) R6 zo ?_
 by_cases g2:v1+v2≤x-y
 case neg=>
  repeat refine zR ?_
  refine zN ?_
  rw [za rfl]
  refine zN ?_
  refine zV (v:=.agg #[.int .u64 (u0:Int),.int .u64 (u1:Int),.int .u64 (v0:Int),.int .u64 (v1:Int),.bool odd]) R5 (yo R2 q4 rfl zb rfl) ?_
  refine zX [.int .u64 (u0:Int),.int .u64 (u1:Int),.int .u64 (v0:Int),.int .u64 (v1:Int),.bool odd] R8 q1 rfl (by show 3*n≤3*n+2;omega) ?_
  refine zN ?_
  exact uR R5 (zg _ _ _) rfl ⟨rfl,by show n≤n+1+1;omega,fun b hb=>(zj zo).trans (hE4 b hb),⟨x,y,u0,u1,u2,v0,v1,v2,r0,r1,odd,rfl,hL,b2,b3,b5,b6⟩⟩
 obtain ⟨hL',hu',hv',hm',hy1⟩:=Leh.step hS hL g1 g2
 repeat refine zR ?_
 refine zN ?_
 rw [ze rfl]
 refine zN ?_
 obtain ⟨q,hq⟩:∃q,q=x/y:=⟨_,rfl⟩
 obtain ⟨r,hr⟩:∃r,r=x%y:=⟨_,rfl⟩
 rw [←hq] at hL' hu' hv'
 rw [←hr] at hL' hm'
 refine zM ?_
 refine zM ?_
 refine xv (a:=x) (b:=y) R6 ⟨zo,zo⟩ ?_
 rw [←hq]
 repeat refine zR ?_
 refine zN ?_
 rw [xF rfl]
 refine zM ?_
 refine zM ?_
 refine zM ?_
 refine vf (a:=x) (b:=y) R6 zo ?_
 rw [←hr]
 repeat refine zR ?_
 refine zN ?_
 refine zM ?_
 refine zO R6 q4 (v:=.int .u64 (u1:Int)) R2 ?_
 refine zM ?_
 refine zM ?_
 refine zO R6 q4 (v:=.int .u64 (u1:Int)) R2 ?_
 refine zM ?_
 refine zM ?_
 refine xg (a:=q) (b:=u2) R6 zo ?_
 refine yA (a:=u1) (b:=q*u2) R6 zo ?_
 refine zM ?_
 refine ym (cs:=[.int .u64 (u1:Int)]) R8 q4 zb (by show 3*n≤3*(n+1)+2;omega) ?_
 refine zM ?_
 refine ym (cs:=[.int .u64 (u2:Int)]) R8 (zg _ _ _) zb (by show 3*n≤3*(n+1)+2;omega) ?_
 rw [wu]
 generalize hh:upd h4 (3*(n+1)+2) _=h5
 have hE5:Ext n h h5:=fun b hb=>by rw [←hh,zj zo,hE4 b hb]
 have q15:=(show h5 (3*n+2)=h4 (3*n+2) from by rw [←hh,zj zo]).trans q1
 have q5:h5 (3*(n+1)+2)=some (.row [.int .u64 (u1:Int),.int .u64 (u2:Int),.int .u64 (v0:Int),.int .u64 (v1:Int),.bool odd] e4):=by rw [←hh,zg];rfl
 clear hh q4 q1 hE4
 repeat refine zR ?_
 refine zN ?_
 refine zM ?_
 refine zO R6 q5 (v:=.int .u64 (v1:Int)) R2 ?_
 refine zM ?_
 refine zM ?_
 refine zO R6 q5 (v:=.int .u64 (v1:Int)) R2 ?_
 refine zM ?_
 refine zM ?_
 refine xg (a:=q) (b:=v2) R6 zo ?_
 refine yA (a:=v1) (b:=q*v2) R6 zo ?_
 refine zM ?_
 refine ym (cs:=[.int .u64 (v1:Int)]) R8 q5 zb (by show 3*n≤3*(n+1)+2;omega) ?_
 refine zM ?_
 refine ym (cs:=[.int .u64 (v2:Int)]) R8 (zg _ _ _) zb (by show 3*n≤3*(n+1)+2;omega) ?_
 rw [wu]
 generalize hh:upd h5 (3*(n+1)+2) _=h6
 have hE6:Ext n h h6:=fun b hb=>by rw [←hh,zj zo,hE5 b hb]
 have q16:=(show h6 (3*n+2)=h5 (3*n+2) from by rw [←hh,zj zo]).trans q15
 have q6:h6 (3*(n+1)+2)=some (.row [.int .u64 (u1:Int),.int .u64 (u2:Int),.int .u64 (v1:Int),.int .u64 (v2:Int),.bool odd] e4):=by rw [←hh,zg];rfl
 clear hh q5 q15 hE5
 repeat refine zR ?_
 refine zN ?_
 refine zM ?_
 refine zO R6 q6 (v:=.bool odd) R2 ?_
 refine zM ?_
 refine zM ?_
 refine ym (cs:=[.bool (!odd)]) R8 q6 zb (by show 3*n≤3*(n+1)+2;omega) ?_
 refine zN ?_
 exact goOn ⟨y,r,u1,u2,u1+q*u2,v1,v2,v1+q*v2,!odd⟩ hm' ⟨rfl,rfl,rfl,rfl,rfl,rfl,trivial⟩ ⟨rfl,rfl,fun b hb=>(zj zo).trans (hE6 b hb),⟨e1,(zj zo).trans q16⟩,⟨e4,(zg _ _ _).trans rfl⟩,hL',by show y≤_;omega,b3,b4,by show u1+q*u2≤_;omega,b6,b7,by show v1+q*v2≤_;omega⟩
end
section
variable {cap:Nat}{l:Nat}{e:TypeId}
theorem oC {x w c s:Nat}(hV:V+c*P=U*w)(hs:18446744073709551616*c'+s=x*w+c):V+P*s+c'*(P*18446744073709551616)=(U+P*x)*w:=by
 have:=iA (P:=P) (V:=V) (U:=0) (W:=U) (z:=0) (v:=x) (w:=w) (c:=c) (s:=s) (c':=c') (by rw [hV,Nat.zero_add]) (by rw [hs,Nat.zero_add])
 rw [Nat.mul_zero,Nat.add_zero,Nat.zero_add] at this
 exact this
theorem zbt {a s t:Nat}(h:d+s*P=a+t*P)(hd:d<P)(ha:a<P):d=a:=by
 have:=congrArg (· %P) h
 simp only [Nat.add_mul_mod_self_right,Nat.mod_eq_of_lt hd,Nat.mod_eq_of_lt ha] at this
 exact this
theorem nf {D p q cP cQ b1 a XA XB:Nat}(h1:p+cP*P=XA)(h2:q+cQ*P=XB)(h3:D+p=q+b1*P)(h4:XB=XA+a)(hD:D<P)(ha:a<P):D=a:=by
 refine zbt (s:=cQ) (t:=b1+cP) (P:=P) ?_ hD ha
 rw [Nat.add_mul]
 omega
theorem jR {D:List Nat}{x:Nat}(d:Nat)(hx:Z[D.length]?=some x):((D++Z.drop D.length)++S).set D.length d=((D++[d])++Z.drop (D++[d]).length)++S:=by
 have:=oj (P:=[]) (S:=S) d hx
 rw [List.nil_append,List.nil_append,List.length_nil,Nat.zero_add] at this
 exact this
theorem oK (hb:b<3*n)(hr:h b=some (.row (u64s (Z++S)) e))(hl:Z.length=l)(hc:l≤cap):Sl h n 1 (.slice (some ⟨b,0,none⟩) l cap) (u64s Z):=by
 subst hl
 exact jD (P:=[]) hb hr hc
structure ASt where
 D:List Nat
 F:List Nat
 cP:Nat
 cQ:Nat
 cR:Nat
 cT:Nat
 b1:Nat
 b2:Nat
 p:Nat
 q:Nat
 r:Nat
 t:Nat
def ASt.ok (A B:List Nat)(u0 u1 v0 v1:Nat)(odd:Bool)(z:ASt):Prop:=
 z.D.length≤A.length∧z.F.length=z.D.length∧WdD z.D∧WdD z.F∧z.cP<18446744073709551616∧z.cQ<18446744073709551616∧z.cR<18446744073709551616∧z.cT<18446744073709551616∧z.b1≤1∧z.b2≤1∧
 z.p+z.cP*18446744073709551616^z.D.length=wv (A.take z.D.length)*u0∧z.q+z.cQ*18446744073709551616^z.D.length=wv (B.take z.D.length)*v0∧z.r+z.cR*18446744073709551616^z.D.length=wv (B.take z.D.length)*v1∧z.t+z.cT*18446744073709551616^z.D.length=wv (A.take z.D.length)*u1∧
 (odd=false→wv z.D+z.p=z.q+z.b1*18446744073709551616^z.D.length∧wv z.F+z.r=z.t+z.b2*18446744073709551616^z.D.length)∧
 (odd=true→wv z.D+z.q=z.p+z.b1*18446744073709551616^z.D.length∧wv z.F+z.t=z.r+z.b2*18446744073709551616^z.D.length)
theorem ASt.step {B:List Nat}{v0 x y:Nat}{z:ASt}(hz:z.ok A B u0 u1 v0 v1 odd)(hx:A[z.D.length]?=some x)(hy:B[z.D.length]?=some y){sp sq sr st cp cq cr ct f e1 e2:Nat}
  (h1:18446744073709551616*cp+sp=x*u0+z.cP)(h2:18446744073709551616*cq+sq=y*v0+z.cQ)(h3:18446744073709551616*cr+sr=y*v1+z.cR)(h4:18446744073709551616*ct+st=x*u1+z.cT)
  (hl:cp<18446744073709551616∧cq<18446744073709551616∧cr<18446744073709551616∧ct<18446744073709551616∧d<18446744073709551616∧f<18446744073709551616∧e1≤1∧e2≤1)
  (g1:odd=false→d+sp+z.b1=sq+18446744073709551616*e1∧f+sr+z.b2=st+18446744073709551616*e2)(g2:odd=true→d+sq+z.b1=sp+18446744073709551616*e1∧f+st+z.b2=sr+18446744073709551616*e2):
  ASt.ok A B u0 u1 v0 v1 odd ⟨z.D++[d],z.F++[f],cp,cq,cr,ct,e1,e2,z.p+18446744073709551616^z.D.length*sp,z.q+18446744073709551616^z.D.length*sq,z.r+18446744073709551616^z.D.length*sr,z.t+18446744073709551616^z.D.length*st⟩:=by
 obtain ⟨k1,k2,k3,k4,k5,k6,k7,k8,k9,k10,k11,k12,k13,k14,k15,k16⟩:=hz
 obtain ⟨l1,l2,l3,l4,l5,l6,l7,l8⟩:=hl
 have hxl:z.D.length<A.length:=(List.getElem?_eq_some_iff.1 hx).1
 unfold ASt.ok
 simp only [List.length_append,List.length_singleton]
 rw [zC hx,zC hy,yH,yH,k2,Nat.pow_succ]
 refine ⟨zo,rfl,WdD.snoc k3 l5,WdD.snoc k4 l6,l1,l2,l3,l4,l7,l8,oC k11 h1,oC k12 h2,oC k13 h3,oC k14 h4,fun ho=>?_,fun ho=>?_⟩
 ·obtain ⟨m1,m2⟩:=k15 ho
  obtain ⟨m3,m4⟩:=g1 ho
  exact ⟨wZ m1 m3,wZ m2 m4⟩
 obtain ⟨m1,m2⟩:=k16 ho
 obtain ⟨m3,m4⟩:=g2 ho
 exact ⟨wZ m1 m3,wZ m2 m4⟩
theorem ASt.fin {B:List Nat}{v0 a:Nat}{z:ASt}(hz:z.ok A B u0 u1 v0 v1 odd)(hl:z.D.length=A.length)(hB:B.length=A.length)(ha:a<18446744073709551616^A.length)(hb:b<18446744073709551616^A.length)(hE:odd=false→v0*wv B=u0*wv A+a∧u1*wv A=v1*wv B+b)(hO:odd=true→u0*wv A=v0*wv B+a∧v1*wv B=u1*wv A+b):
  wv z.D=a∧wv z.F=b:=by
 obtain ⟨k1,k2,k3,k4,k5,k6,k7,k8,k9,k10,k11,k12,k13,k14,k15,k16⟩:=hz
 have w1:=ws k3
 have w2:=ws k4
 rw [k2] at w2
 rw [hl] at k11 k12 k13 k14 k15 k16 w1 w2
 have tA:A.take A.length=A:=List.take_length
 have tB:B.take A.length=B:=by rw [←hB,List.take_length]
 rw [tA] at k11 k14
 rw [tB] at k12 k13
 cases odd with
 |false=>
  obtain ⟨m1,m2⟩:=k15 rfl
  obtain ⟨m3,m4⟩:=hE rfl
  exact ⟨nf k11 k12 m1 (by rw [Nat.mul_comm _ v0,m3,Nat.mul_comm u0]) w1 ha,nf k13 k14 m2 (by rw [Nat.mul_comm _ u1,m4,Nat.mul_comm v1]) w2 hb⟩
 |true=>
  obtain ⟨m1,m2⟩:=k16 rfl
  obtain ⟨m3,m4⟩:=hO rfl
  exact ⟨nf k12 k11 m1 (by rw [Nat.mul_comm _ u0,m3,Nat.mul_comm v0]) w1 ha,nf k14 k13 m2 (by rw [Nat.mul_comm _ v1,m4,Nat.mul_comm u1]) w2 hb⟩
theorem zcz (k:Nat){bA bB cA cB:Nat}{B TA TB:List Nat}{eA:TypeId}{v0 a:Nat}(hbA:bA<3*n)(hbB:bB<3*n)(hne:bA≠bB)(hrA:h bA=some (.row (u64s (A++TA)) eA))(hrB:h bB=some (.row (u64s (B++TB)) eB))(hcA:A.length≤cA)(hcB:B.length≤cB)(hB:B.length=A.length)(hA1:1≤A.length)(hbig:A.length<1000000000)(dA:WdD A)(dB:WdD B)
  (hu:u0<18446744073709551616∧u1<18446744073709551616∧v0<18446744073709551616∧v1<18446744073709551616)(ha:a<18446744073709551616^A.length)(hb:b<18446744073709551616^A.length)(hE:odd=false→v0*wv B=u0*wv A+a∧u1*wv A=v1*wv B+b)(hO:odd=true→u0*wv A=v0*wv B+a∧v1*wv B=u1*wv A+b):
  CF (cal (k+3)) 115 [.agg #[.int .u64 (u0:Int),.int .u64 (u1:Int),.int .u64 (v0:Int),.int .u64 (v1:Int),.bool odd],.slice (some ⟨bA,0,none⟩) A.length cA,.slice (some ⟨bB,0,none⟩) B.length cB] h n fun _ h' n' w=>∃A' B',(∀c∈w,c=bA∨c=bB)∧n≤n'∧(∀c,c<3*n→c≠bA→c≠bB→h' c=h c)∧h' bA=some (.row (u64s (A'++TA)) eA)∧h' bB=some (.row (u64s (B'++TB)) eB)∧WdD A'∧WdD B'∧A'.length=A.length∧B'.length=A.length∧wv A'=a∧wv B'=b:=by
 refine pi (fn:=Tryz.f115) R4 ?_
 obtain ⟨hu0,hu1,hv0,hv1⟩:=hu
 refine zN ?_
 refine nz (cs:=[.int .u64 (u0:Int),.int .u64 (u1:Int),.int .u64 (v0:Int),.int .u64 (v1:Int),.bool odd]) R5 ?_
 generalize hh:upd h (3*n+2) _=h1
 have hx1:∀c,c<3*n→h1 c=h c:=fun c hc=>by rw [←hh,zj zo]
 have q1:∃e,h1 (3*n+2)=some (.row [.int .u64 (u0:Int),.int .u64 (u1:Int),.int .u64 (v0:Int),.int .u64 (v1:Int),.bool odd] e):=⟨_,by rw [←hh,zg]⟩
 clear hh
 refine zN ?_
 repeat refine zR ?_
 refine zN ?_
 repeat refine zR ?_
 refine zN ?_
 repeat refine zR ?_
 refine zN ?_
 refine z8 (α:=ASt) (fun z=>[(1,.slice (some ⟨bA,0,none⟩) A.length cA),(2,.slice (some ⟨bB,0,none⟩) B.length cB),(3,.pointer (some ⟨3*n+2,0,none⟩)),(6,.int .u64 (z.cP:Int)),(7,.int .u64 (z.cQ:Int)),(8,.int .u64 (z.cR:Int)),(9,.int .u64 (z.cT:Int)),(10,.int .u64 (z.b1:Int)),(11,.int .u64 (z.b2:Int)),(19,.slice (some ⟨bA,0,none⟩) A.length cA),(20,.int .i64 (A.length:Int)),(21,.int .i64 (z.D.length:Int))])
  (fun z h' n' w=>n'=n+1∧(∀c∈w,c=bA∨c=bB)∧(w=[]→z.D.length=0)∧(∀c,c<3*n→c≠bA→c≠bB→h' c=h c)∧(∃e,h' (3*n+2)=some (.row [.int .u64 (u0:Int),.int .u64 (u1:Int),.int .u64 (v0:Int),.int .u64 (v1:Int),.bool odd] e))∧h' bA=some (.row (u64s ((z.D++A.drop z.D.length)++TA)) eA)∧h' bB=some (.row (u64s ((z.F++B.drop z.F.length)++TB)) eB)∧z.ok A B u0 u1 v0 v1 odd) (fun z=>A.length-z.D.length)
  ⟨[],[],0,0,0,0,0,0,0,0,0,0⟩ ⟨rfl,rfl,rfl,rfl,rfl,rfl,rfl,rfl,rfl,rfl,rfl,rfl,trivial⟩ ⟨rfl,fun x hx=>absurd hx List.not_mem_nil,fun _=>rfl,fun c hc _ _=>hx1 c hc,q1,(hx1 _ hbA).trans hrA,(hx1 _ hbB).trans hrB,Nat.zero_le _,rfl,WdD.nil,WdD.nil,by show (0:Nat)<_;decide,by show (0:Nat)<_;decide,by show (0:Nat)<_;decide,by show (0:Nat)<_;decide,by show (0:Nat)≤_;decide,by show (0:Nat)≤_;decide,by simp [wv,dv],by simp [wv,dv],by simp [wv,dv],by simp [wv,dv],fun _=>by simp [wv,dv],fun _=>by simp [wv,dv]⟩ (by show A.length-0<LL;unfold LL;omega) ?_
 clear hx1 q1 hrA hrB
 rintro ⟨D,F,cP,cQ,cR,cT,b1,b2,p,q,r,t'⟩ t h2 _ w ⟨rfl,hw,hw0,hx2,⟨e2,q2⟩,qA,qB,hz⟩
 have hzz:ASt.ok A B u0 u1 v0 v1 odd ⟨D,F,cP,cQ,cR,cT,b1,b2,p,q,r,t'⟩:=hz
 have hz':=hz
 obtain ⟨k1,k2,k3,k4,k5,k6,k7,k8,k9,k10,_⟩:=hz'
 simp only at hw0 qA qB k1 k2 k3 k4 k5 k6 k7 k8 k9 k10
 refine zN ?_
 by_cases hDA:D.length=A.length
 ·repeat refine zR ?_
  refine zN ?_
  rw [za rfl]
  refine zN ?_
  obtain ⟨f1,f2⟩:=ASt.fin hzz hDA hB ha hb hE hO
  rw [hDA,List.drop_length,List.append_nil] at qA
  rw [k2,hDA,←hB,List.drop_length,List.append_nil] at qB
  refine ⟨rfl,[],rfl,⟨D,F,hw,Nat.le_succ n,hx2,qA,qB,k3,k4,hDA,zo,f1,f2⟩,fun h0=>?_⟩
  have:=hw0 h0
  omega
 obtain ⟨x,hx⟩:∃x,A[D.length]?=some x:=⟨A[D.length]'zo,List.getElem?_eq_getElem zo⟩
 obtain ⟨y,hy⟩:∃y,B[D.length]?=some y:=⟨B[D.length]'zo,List.getElem?_eq_getElem zo⟩
 have hxl:=dA.get hx
 have hyl:=dB.get hy
 have hSA:Sl h2 (n+1) 1 (.slice (some ⟨bA,0,none⟩) A.length cA) (u64s (D++A.drop D.length)):=oK zo qA (by rw [List.length_append,List.length_drop];omega) hcA
 have hSB:Sl h2 (n+1) 1 (.slice (some ⟨bB,0,none⟩) B.length cB) (u64s (F++B.drop F.length)):=oK zo qB (by rw [List.length_append,List.length_drop];omega) hcB
 have hyF:B[F.length]?=some y:=by rw [k2];exact hy
 repeat refine zR ?_
 refine zN ?_
 rw [ze rfl]
 refine zN ?_
 repeat refine zR ?_
 refine yp (f:=fun d:Nat=>Value.int .u64 (d:Int)) (j:=D.length) R7 hSA R2 (vE hx) (fun _=>rfl) R4 fun _=>?_
 repeat refine zR ?_
 refine zN ?_
 repeat refine zR ?_
 refine yp (f:=fun d:Nat=>Value.int .u64 (d:Int)) (j:=F.length) R7 hSB ⟨rfl,zo⟩ (vE hyF) (fun _=>rfl) R4 fun _=>?_
 repeat refine zR ?_
 refine zN ?_
 have hpp:=rh hxl hu0
 refine zM ?_
 refine zM ?_
 refine zO R6 q2 (v:=.int .u64 (u0:Int)) R2 ?_
 refine zM ?_
 refine ya _ R5 (vY k h2 (n+1) hxl hu0 k5) ?_
 rintro _ rfl
 obtain ⟨sp,hsp⟩:∃z,z=(x*u0+cP)%18446744073709551616:=⟨_,rfl⟩
 obtain ⟨cp,hcp⟩:∃z,z=(x*u0+cP)/18446744073709551616:=⟨_,rfl⟩
 rw [←hsp,←hcp]
 have hlp:sp<18446744073709551616:=by rw [hsp];exact Nat.mod_lt _ zd
 have hdp:cp<18446744073709551616:=zo
 have hep:18446744073709551616*cp+sp=x*u0+cP:=by rw [hsp,hcp];exact Nat.div_add_mod _ _
 clear hsp hcp hpp
 repeat refine zR ?_
 refine zN ?_
 have hpq:=rh hyl hv0
 refine zM ?_
 refine zM ?_
 refine zO R6 q2 (v:=.int .u64 (v0:Int)) R2 ?_
 refine zM ?_
 refine ya _ R5 (vY k h2 (n+1) hyl hv0 k6) ?_
 rintro _ rfl
 obtain ⟨sq,hsq⟩:∃z,z=(y*v0+cQ)%18446744073709551616:=⟨_,rfl⟩
 obtain ⟨cq,hcq⟩:∃z,z=(y*v0+cQ)/18446744073709551616:=⟨_,rfl⟩
 rw [←hsq,←hcq]
 have hlq:sq<18446744073709551616:=by rw [hsq];exact Nat.mod_lt _ zd
 have hdq:cq<18446744073709551616:=zo
 have heq:18446744073709551616*cq+sq=y*v0+cQ:=by rw [hsq,hcq];exact Nat.div_add_mod _ _
 clear hsq hcq hpq
 repeat refine zR ?_
 refine zN ?_
 have hpr:=rh hyl hv1
 refine zM ?_
 refine zM ?_
 refine zO R6 q2 (v:=.int .u64 (v1:Int)) R2 ?_
 refine zM ?_
 refine ya _ R5 (vY k h2 (n+1) hyl hv1 k7) ?_
 rintro _ rfl
 obtain ⟨sr,hsr⟩:∃z,z=(y*v1+cR)%18446744073709551616:=⟨_,rfl⟩
 obtain ⟨cr,hcr⟩:∃z,z=(y*v1+cR)/18446744073709551616:=⟨_,rfl⟩
 rw [←hsr,←hcr]
 have hlr:sr<18446744073709551616:=by rw [hsr];exact Nat.mod_lt _ zd
 have hdr:cr<18446744073709551616:=zo
 have her:18446744073709551616*cr+sr=y*v1+cR:=by rw [hsr,hcr];exact Nat.div_add_mod _ _
 clear hsr hcr hpr
 repeat refine zR ?_
 refine zN ?_
 have hpt:=rh hxl hu1
 refine zM ?_
 refine zM ?_
 refine zO R6 q2 (v:=.int .u64 (u1:Int)) R2 ?_
 refine zM ?_
 refine ya _ R5 (vY k h2 (n+1) hxl hu1 k8) ?_
 rintro _ rfl
 obtain ⟨st,hst⟩:∃z,z=(x*u1+cT)%18446744073709551616:=⟨_,rfl⟩
 obtain ⟨ct,hct⟩:∃z,z=(x*u1+cT)/18446744073709551616:=⟨_,rfl⟩
 rw [←hst,←hct]
 have hlt:st<18446744073709551616:=by rw [hst];exact Nat.mod_lt _ zd
 have hdt:ct<18446744073709551616:=zo
 have het:18446744073709551616*ct+st=x*u1+cT:=by rw [hst,hct];exact Nat.div_add_mod _ _
 clear hst hct hpt
 repeat refine zR ?_
 refine zN ?_
 refine zM ?_
 refine zO R6 q2 (v:=.bool odd) R2 ?_
 simp only [yE,xE,zK,xz]
 refine yP (α:=Nat×Nat×Nat×Nat) (fun z=>[(1,.slice (some ⟨bA,0,none⟩) A.length cA),(2,.slice (some ⟨bB,0,none⟩) B.length cB),(3,.pointer (some ⟨3*n+2,0,none⟩)),(6,.int .u64 (cp:Int)),(7,.int .u64 (cq:Int)),(8,.int .u64 (cr:Int)),(9,.int .u64 (ct:Int)),(10,.int .u64 (b1:Int)),(11,.int .u64 (b2:Int)),(12,.int .u64 (z.1:Int)),(13,.int .u64 (z.2.1:Int)),(14,.int .u64 (z.2.2.1:Int)),(15,.int .u64 (z.2.2.2:Int)),(16,.int .i64 (D.length:Int)),(19,.slice (some ⟨bA,0,none⟩) A.length cA),(20,.int .i64 (A.length:Int)),(21,.int .i64 (D.length:Int))])
  (fun z h' n' w'=>h2=h'∧n+1=n'∧w=w'∧z.1<18446744073709551616∧z.2.1<18446744073709551616∧z.2.2.1<18446744073709551616∧z.2.2.2<18446744073709551616∧(odd=false→z.1=sp∧z.2.1=sq∧z.2.2.1=sr∧z.2.2.2=st)∧(odd=true→z.1=sq∧z.2.1=sp∧z.2.2.1=st∧z.2.2.2=sr)) ?_ ?_
 ·cases odd with
  |false=>
   rw [za rfl]
   refine zN ?_
   exact zS (sp,sq,sr,st) ⟨rfl,rfl,rfl,rfl,rfl,rfl,rfl,rfl,rfl,rfl,rfl,rfl,rfl,rfl,rfl,rfl,rfl,trivial⟩ ⟨rfl,rfl,rfl,hlp,hlq,hlr,hlt,fun _=>⟨rfl,rfl,rfl,rfl⟩,fun h=>by cases h⟩
  |true=>
   rw [ze rfl]
   refine zN ?_
   repeat refine zR ?_
   refine zN ?_
   exact zS (sq,sp,st,sr) ⟨rfl,rfl,rfl,rfl,rfl,rfl,rfl,rfl,rfl,rfl,rfl,rfl,rfl,rfl,rfl,rfl,rfl,trivial⟩ ⟨rfl,rfl,rfl,hlq,hlp,hlt,hlr,fun h=>(by cases h),fun _=>⟨rfl,rfl,rfl,rfl⟩⟩
 rintro ⟨z1,z2,z3,z4⟩ t3 _ _ _ ⟨rfl,rfl,rfl,hz1,hz2,hz3,hz4,gE,gO⟩
 simp only at hz1 hz2 hz3 hz4 gE gO
 refine zN ?_
 have hlA:(D++A.drop D.length).length=A.length:=by rw [List.length_append,List.length_drop];omega
 have hlB:(F++B.drop F.length).length=B.length:=by rw [List.length_append,List.length_drop];omega
 repeat refine zR ?_
 refine tw (x:=z2) (y:=z1) (c:=b1) R5 k9 ?_
 have hsd:=w9 hz2 hz1 k9
 obtain ⟨d,hd⟩:∃d,d=(z2+18446744073709551616-z1-b1)%18446744073709551616:=⟨_,rfl⟩
 obtain ⟨e1,he1⟩:∃e1,e1=(if z1+b1≤z2 then 0 else 1):=⟨_,rfl⟩
 rw [←hd,←he1] at hsd ⊢
 have hdl:d<18446744073709551616:=by rw [hd];exact Nat.mod_lt _ zd
 have he1l:e1≤1:=by rw [he1];split<;>omega
 repeat refine zR ?_
 refine yn (j:=D.length) (off:=0) (v:=.int .u64 (d:Int)) R8 rfl ⟨zo,by rw [zF,List.length_append,hlA];omega⟩ qA hbA (fun _=>rfl) R3 (fun _=>rfl) rfl fun _=>?_
 rw [Nat.zero_add,ye,jR _ hx]
 generalize hh:upd h2 bA _=h3
 have qA3:h3 bA=some (.row (u64s (((D++[d])++A.drop (D++[d]).length)++TA)) eA):=by rw [←hh,zg]
 have qB3:h3 bB=some (.row (u64s ((F++B.drop F.length)++TB)) eB):=by rw [←hh,zj (Ne.symm hne)];exact qB
 have q3:=(show h3 (3*n+2)=h2 (3*n+2) from by rw [←hh,zj zo]).trans q2
 have hx3:∀c,c<3*n→c≠bA→c≠bB→h3 c=h c:=fun c hc h1 h2'=>by rw [←hh,zj h1];exact hx2 c hc h1 h2'
 clear hh q2 qA qB hx2 hSA hSB
 repeat refine zR ?_
 refine zN ?_
 repeat refine zR ?_
 refine tw (x:=z4) (y:=z3) (c:=b2) R5 k10 ?_
 have hsf:=w9 hz4 hz3 k10
 obtain ⟨f,hf⟩:∃d,d=(z4+18446744073709551616-z3-b2)%18446744073709551616:=⟨_,rfl⟩
 obtain ⟨e2',he2⟩:∃e1,e1=(if z3+b2≤z4 then 0 else 1):=⟨_,rfl⟩
 rw [←hf,←he2] at hsf ⊢
 have hfl:f<18446744073709551616:=by rw [hf];exact Nat.mod_lt _ zd
 have he2l:e2'≤1:=by rw [he2];split<;>omega
 repeat refine zR ?_
 refine yn (j:=F.length) (off:=0) (v:=.int .u64 (f:Int)) R8 zo ⟨zo,by rw [zF,List.length_append,hlB];omega⟩ qB3 hbB (fun _=>rfl) R3 (fun _=>rfl) rfl fun _=>?_
 rw [Nat.zero_add,ye,jR _ hyF]
 repeat refine zR ?_
 refine zN ?_
 repeat refine zR ?_
 refine zN ?_
 have hst:=ASt.step hzz hx hy hep heq her het ⟨hdp,hdq,hdr,hdt,hdl,hfl,he1l,he2l⟩ (fun h=>by
  obtain ⟨i1,i2,i3,i4⟩:=gE h
  rw [←i1,←i2,←i3,←i4]
  exact ⟨hsd,hsf⟩) (fun h=>by
  obtain ⟨i1,i2,i3,i4⟩:=gO h
  rw [←i1,←i2,←i3,←i4]
  exact ⟨hsd,hsf⟩)
 refine goOn _ ?_ ⟨rfl,rfl,rfl,rfl,rfl,rfl,rfl,rfl,rfl,rfl,rfl,?_,trivial⟩ ⟨rfl,?_,?_,?_,⟨e2,(zj zo).trans q3⟩,(zj hne).trans qA3,zg _ _ _,hst⟩
 ·show A.length-(D++[d]).length<A.length-D.length
  rw [List.length_append,List.length_singleton];omega
 ·show Value.int .i64 _=Value.int .i64 _
  rw [List.length_append];rfl
 ·intro c hc
  rcases List.mem_cons.1 hc with rfl|hc
  ·exact .inr rfl
  rcases List.mem_cons.1 hc with rfl|hc
  ·exact .inl rfl
  exact hw c hc
 ·intro h;cases h
 intro c hc h1 h2'
 exact (zj h2').trans (hx3 c hc h1 h2')
end
section
section
variable {E:Env}{h:HF}{n:Nat}{sT e:TypeId}{size bytes:Nat}{z x:Value}
theorem zag {cap:Nat}(hu:E.und sT=some (.slice e))(hi:E.inf e=some (1,bytes,z))(hz:(zl z).length=1)(h1:1≤bytes)(hx:argS h 1 x 1 [v])(hb:(len+1)*bytes≤1099511627776)(hc:len+1≤cap)(hr:h b=some (.row c e'))(hl:len<c.length)(ho:ones [v]=true):
  yD E h n sT (.slice (some ⟨b,0,none⟩) len cap) x=some (.val (.slice (some ⟨b,0,none⟩) (len+1) cap) (upd h b (some (.row (c.set len v) e'))) n [b]):=by
 obtain ⟨hl',hcx⟩:=hx
 have c1:Nat.ble ((len+1)*bytes) 1099511627776=true:=Nat.ble_eq_true_of_le hb
 have c2:Nat.beq (zl z).length 1=true:=by rw [hz];exact Nat.beq_refl _
 have c3:Nat.ble 1 1=true:=rfl
 have c4:Nat.ble 1 bytes=true:=Nat.ble_eq_true_of_le h1
 have c5:Nat.ble (len+1) cap=true:=Nat.ble_eq_true_of_le hc
 have c6:wO h ((⟨b,0,none⟩:Addr).add (len*1)) [v]=some (upd h b (some (.row (c.set len v) e'))):=by
  rw [wF,Nat.zero_add,Nat.mul_one,ur hr (by rw [List.length_singleton];omega) ho,splice_one c len v hl]
 simp only [yD,hu,hi,hl',hcx,c1,c2,c3,c4,c5,Bool.and_self,vH,c6]
end
structure GRow (h:HF)(lo n b:Nat)(A T:List Nat):Prop where
 g:gro b=true
 lo:3*lo≤b
 hi:b<3*n
 r:h b=some (.row (u64s (A++T)) 129)
theorem GRow.sl {h:HF}{n:Nat}(g:GRow h lo n b A T):Sl h n 1 (.slice (some ⟨b,0,none⟩) A.length (A.length+T.length)) (u64s A):=oK g.hi g.r rfl zo
theorem GRow.ext {h:HF}{n:Nat}(g:GRow h lo n b A T)(e:Ext n h h')(hn:n≤n'):GRow h' lo n' b A T:=⟨g.g,g.lo,by have:=g.hi;omega,by rw [e b g.hi];exact g.r⟩
theorem GRow.cut {h:HF}{n:Nat}(g:GRow h lo n b A T):GRow h lo n b (z5 A) (A.drop (z5 A).length++T):=⟨g.g,g.lo,g.hi,by
 rw [←List.append_assoc]
 have:z5 A++A.drop (z5 A).length=A:=by
  conv=>lhs;rw [←tX A]
  conv=>rhs;rw [←List.take_append_drop (z5 A).length A]
  rw [tX]
 rw [this];exact g.r⟩
theorem GRow.cap:(z5 A).length+(A.drop (z5 A).length++T).length=A.length+T.length:=by
 have:=xZ A
 rw [List.length_append,List.length_drop]
 omega
section
variable {X:CtxF}{ops r:List Oper}{t:TF}{h:HF}{n:Nat}{w:List Nat}{Q:SV→Prop}{o:Oper}{d:Tmp}
theorem zez {sT:TypeId}{s x:Operand}{bytes:Nat}{z:Value}{d0:Nat}(hw:zh ops t o=true)(hd:o.dst=some d)(hn:zn X.nt (some d)=true)(ho:o.op=.call {callee:=.builtin .append,args:=#[s,x],argTypes:=#[sT,xT]})(hxT:(match X.E.und xT with|some (.int _)=>false|none=>false|_=>true)=true)
  (hu:X.E.und sT=some (.slice 129))(hi:X.E.inf 129=some (1,bytes,z))(hz:(zl z).length=1)(h1:1≤bytes)(hs:evF t s=.slice (some ⟨b,0,none⟩) A.length (A.length+T.length))(hg:GRow h lo n b A T)(hx:argS h 1 (evF t x) 1 (u64s [d0]))(hb:(A.length+1)*bytes≤1099511627776)(hlo:X.n0≤lo∧lo≤n)
  (k:∀b' T' h' n',n≤n'→GRow h' lo n' b' (A++[d0]) T'→(∀c,c<3*n→c≠b→h' c=h c)→(b'=b∨3*n≤b')→EO X ops r ⟨upd t d (.slice (some ⟨b',0,none⟩) (A.length+1) (A.length+1+T'.length)),h',n',w⟩ Q):EO X ops (o::r) ⟨t,h,n,w⟩ Q:=by
 have hbl:=hg.lo
 cases T with
 |cons x T=>
  rw [List.length_cons] at hs
  refine yK (v:=.slice (some ⟨b,0,none⟩) (A.length+1) (A.length+(T.length+1))) ⟨hw,hd,hn,ho,hxT⟩ (by rw [hs];exact zag hu hi hz h1 hx hb zo hg.r (by rw [zF,List.length_append,List.length_cons];omega) rfl) ?_
  rw [z6 fun y hy=>by rw [List.mem_singleton.1 hy];omega]
  have:=k b T (upd h b (some (.row ((u64s (A++x::T)).set A.length (.int .u64 (d0:Int))) 129))) n (Nat.le_refl _) ⟨hg.g,hg.lo,hg.hi,by
   rw [zg,ye,List.set_append_right _ _ (Nat.le_refl _),Nat.sub_self,List.set_cons_zero,List.append_assoc]
   rfl⟩ (fun c _ hc=>zj hc) (.inl rfl)
  rw [show A.length+(T.length+1)=A.length+1+T.length from zo]
  exact this
 |nil=>
  rw [List.length_nil,Nat.add_zero] at hs
  have hr:=hg.r
  rw [List.append_nil] at hr
  refine yK (v:=.slice (some ⟨3*n+1,0,none⟩) (A.length+1) (A.length+1)) ⟨hw,hd,hn,ho,hxT⟩ (by rw [hs];exact uD hu hi hz (Nat.le_refl _) h1 hx (Nat.le_refl _) hb hg.g hr (by rw [zF,Nat.mul_one]) (yX (vh A) rfl) rfl) ?_
  rw [z6 fun y hy=>by rw [List.mem_singleton.1 hy];omega]
  have hbh:=hg.hi
  exact k (3*n+1) [] _ (n+1) (Nat.le_succ n) ⟨ub n,zo,zo,by rw [zg,List.append_nil,wx]⟩ (fun c hc hcb=>by rw [zj zo,zj hcb]) (.inr zo)
end
theorem zhy {A a f:Nat}(h1:2*b≤A)(h2:a≤B)(h:A*B<2^f)(hp:0<A*B):∃f',f=f'+1∧a*b<2^f':=by
 cases f with
 |zero=>rw [Nat.pow_zero] at h;omega
 |succ f=>
  refine ⟨f,rfl,?_⟩
  have h3:a*(2*b)≤B*A:=Nat.mul_le_mul h2 h1
  rw [Nat.mul_left_comm,Nat.mul_comm B A] at h3
  rw [Nat.pow_succ] at h
  omega
structure GSt where
 A:List Nat
 TA:List Nat
 bA:Nat
 B:List Nat
 aB:Option Addr
 cB:Nat
 f:Nat
structure GOk (h:HF)(lo n g:Nat)(z:GSt):Prop where
 rA:GRow h lo n z.bA z.A z.TA
 sB:Sl h n 1 (.slice z.aB z.B.length z.cB) (u64s z.B)
 rB:1≤z.B.length→∃bB TB,z.aB=some ⟨bB,0,none⟩∧z.cB=z.B.length+TB.length∧GRow h lo n bB z.B TB∧z.bA≠bB
 nA:NW z.A
 nB:NW z.B
 le:wv z.B≤wv z.A
 pos:0<wv z.A
 lA:z.A.length<1000000
 lB:z.B.length<80
 gcd:Nat.gcd (wv z.A) (wv z.B)=g
 fuel:wv z.A*wv z.B<2^z.f
theorem zdc (h:NW A)(h1:1≤A.length):0<wv A:=by
 rcases Nat.eq_zero_or_pos (wv A) with h0|h0
 ·have:A=[]:=h.inj NW.nil (by rw [h0];rfl)
  rw [this] at h1
  exact absurd h1 zd
 exact h0
theorem vZ {B:List Nat}(hA:NW A)(hB:NW B)(h:wv B≤wv A):B.length≤A.length:=by
 rcases Nat.lt_or_ge A.length B.length with hl|hl
 ·have:=hA.len_lt hB hl;omega
 exact hl
theorem zfy (h:gro b=true):b%3=1:=Nat.eq_of_beq_eq_true h
theorem kN (k:Nat){h:HF}(hG:GK.G h){n:Nat}(hn:20≤n)(hA:Sl h n 1 (.slice a1 l1 c1) (u64s A))(hC:Sl h n 1 (.slice a2 l2 c2) (u64s C))(nA:NW A)(nC:NW C)(hb:A.length<80∧C.length<80):
  CF (cal (k+7)) 82 [.slice a1 l1 c1,.slice a2 l2 c2] h n fun v h' n' w=>∃L,ResW n h v h' n' w L∧wv L=Nat.gcd (wv A) (wv C)∧(yO n v∨v=.slice a1 l1 c1∨v=.slice a2 l2 c2):=by
 refine zv (fn:=Tryz.f82) R4 ?_
 refine zN ?_
 repeat refine zR ?_
 refine zN ?_
 refine zM ?_
 refine zM ?_
 refine ya _ R5 (vL (k+3) hA hC nA nC zo) ?_
 rintro _ rfl
 refine pY R6 ?_
 simp only [yE,xE,zK,xz]
 refine yP (α:=(Option Addr×Nat×Nat×List Nat)×(Option Addr×Nat×Nat×List Nat)) (fun z=>[(0,.slice z.1.1 z.1.2.1 z.1.2.2.1),(1,.slice z.2.1 z.2.2.1 z.2.2.2.1)]) (fun z h' n' w=>h=h'∧n=n'∧w=[]∧Sl h n 1 (.slice z.1.1 z.1.2.1 z.1.2.2.1) (u64s z.1.2.2.2)∧Sl h n 1 (.slice z.2.1 z.2.2.1 z.2.2.2.1) (u64s z.2.2.2.2)∧NW z.1.2.2.2∧NW z.2.2.2.2∧z.1.2.2.2.length<80∧z.2.2.2.2.length<80∧wv z.2.2.2.2≤wv z.1.2.2.2∧Nat.gcd (wv z.1.2.2.2) (wv z.2.2.2.2)=Nat.gcd (wv A) (wv C)∧(Value.slice z.1.1 z.1.2.1 z.1.2.2.1=.slice a1 l1 c1∨Value.slice z.1.1 z.1.2.1 z.1.2.2.1=.slice a2 l2 c2)) ?_ ?_
 ·by_cases hlt:wv A<wv C
  ·rw [ze (by show Value.bool _=_;rw [ul hlt];rfl)]
   refine zN ?_
   repeat refine zR ?_
   refine zN ?_
   exact zS ((a2,l2,c2,C),(a1,l1,c1,A)) ⟨rfl,rfl,trivial⟩ ⟨rfl,rfl,rfl,hC,hA,nC,nA,hb.2,hb.1,Nat.le_of_lt hlt,Nat.gcd_comm _ _,.inr rfl⟩
  rw [za (by
   show Value.bool _=_
   rcases Nat.lt_or_ge (wv C) (wv A) with h|h
   ·rw [um h];rfl
   ·rw [show wv A=wv C from zo,qQ];rfl)]
  refine zN ?_
  exact zS ((a1,l1,c1,A),(a2,l2,c2,C)) ⟨rfl,rfl,trivial⟩ ⟨rfl,rfl,rfl,hA,hC,nA,nC,hb.1,hb.2,by show wv C≤wv A;omega,rfl,.inl rfl⟩
 rintro ⟨⟨a,l,c,X⟩,⟨a',l',c',Y⟩⟩ t _ _ _ ⟨rfl,rfl,rfl,hX,hY,nX,nY,hXl,hYl,hYX,hg,hv⟩
 simp only at hX hY nX nY hXl hYl hYX hg hv
 generalize hgg:Nat.gcd (wv A) (wv C)=g at hg ⊢
 clear hgg hb hA hC nA nC
 have eX:=hX.lenW
 have eY:=hY.lenW
 subst eX eY
 refine zN ?_
 by_cases hY0:Y=[]
 ·subst hY0
  repeat refine zR ?_
  refine zN ?_
  rw [ze rfl]
  refine zN ?_
  repeat refine zR ?_
  refine zN ?_
  exact retH _ ⟨rfl,(zi rfl),rfl⟩ ⟨X,⟨rfl,Nat.le_refl _,Ext.refl _ _,hX,nX⟩,by rw [←hg,show wv []=0 from rfl,Nat.gcd_zero_right],.inr hv⟩
 have hY1:1≤Y.length:=by
  rcases Nat.eq_zero_or_pos Y.length with h0|h0
  ·exact absurd (List.length_eq_zero_iff.1 h0) hY0
  exact h0
 have hX1:1≤X.length:=Nat.le_trans hY1 (vZ nX nY hYX)
 have hX0:X≠[]:=fun e=>by rw [e] at hX1;exact absurd hX1 zd
 repeat refine zR ?_
 refine zN ?_
 rw [za rfl]
 refine zN ?_
 refine zM ?_
 refine zw _ R5 (xR (k+5) hX zo) ?_
 rintro v5 h2 n2 _ ⟨rfl,hn2,hx2,_,hg5⟩
 obtain ⟨b5,rfl,g51,g52,g53,g54,_⟩:=(hg5 hX0).inv2 zo
 refine zM ?_
 refine zw _ R5 (xR (k+5) (hY.ext hx2 hn2) zo) ?_
 rintro v6 h3 n3 _ ⟨rfl,hn3,hx3,_,hg6⟩
 obtain ⟨b6,rfl,g61,g62,g63,g64,_⟩:=(hg6 hY0).inv2 zo
 have hx23:Ext n h h3:=hx2.trans hx3 hn2
 have r5:GRow h3 n n3 b5 X []:=⟨g51,g52,zo,by rw [List.append_nil,hx3 _ g53];exact g54⟩
 have r6:GRow h3 n n3 b6 Y []:=⟨g61,zo,g63,by rw [List.append_nil];exact g64⟩
 repeat refine zR ?_
 refine zN ?_
 refine z8 (α:=GSt) (fun z=>[(5,.slice (some ⟨z.bA,0,none⟩) z.A.length (z.A.length+z.TA.length)),(6,.slice z.aB z.B.length z.cB)]) (fun z h' n' w=>n≤n'∧w=[]∧Ext n h h'∧GOk h' n n' g z) (fun z=>z.f)
  ⟨X,[],b5,Y,some ⟨b6,0,none⟩,Y.length,64*(X.length+Y.length)⟩ ⟨rfl,rfl,trivial⟩ ⟨zo,rfl,hx23,r5,r6.sl,fun _=>⟨b6,[],rfl,rfl,r6,by show b5≠b6;omega⟩,nX,nY,hYX,zdc nX hX1,by show X.length<_;omega,hYl,hg,?_⟩ (by show 64*(X.length+Y.length)<LL;unfold LL;omega) ?_
 ·show wv X*wv Y<2^(64*(X.length+Y.length))
  rw [Nat.pow_mul,show (2:Nat)^64=18446744073709551616 from rfl,Nat.pow_add]
  exact Nat.mul_lt_mul'' (ws nX.1) (ws nY.1)
 clear hg5 hg6 r5 r6 hx23 hx2 hx3 g54 g64 hg hv hYX nX nY hX hY
 rintro ⟨A,TA,bA,B,aB,cB,f⟩ t h1 n1 _ ⟨hn1,rfl,hx1,hok⟩
 obtain ⟨rA,sB,rB,nA,nB,hle,hpos,lA,lB,hg,hf⟩:=hok
 simp only at rA sB rB nA nB hle hpos lA lB hg hf hn1
 refine zN ?_
 by_cases hB2:2≤B.length
 case neg=>
  repeat refine zR ?_
  refine zN ?_
  rw [za rfl]
  refine zN ?_
  cases B with
  |nil=>
   repeat refine zR ?_
   refine zN ?_
   rw [ze rfl]
   refine zN ?_
   repeat refine zR ?_
   refine zN ?_
   exact retH _ ⟨rfl,(zi rfl),rfl⟩ ⟨A,⟨rfl,hn1,hx1,rA.sl,nA⟩,by rw [←hg,show wv []=0 from rfl,Nat.gcd_zero_right],.inl rA.lo⟩
  |cons y B=>
   have hB0:B=[]:=by
    rw [List.length_cons] at hB2
    exact List.length_eq_zero_iff.1 zo
   subst hB0
   obtain ⟨bB,TB,rfl,rfl,gB,hne⟩:=rB (by simp)
   have hy:y<18446744073709551616:=nB.1 y (by simp)
   have hy0:y≠0:=NW.last (l:=[]) nB
   rw [sY] at hg
   have hr6:=gB.r
   have hG1:GK.G h1:=vT hG hx1 hn
   rw [show [y].length=1 from rfl]
   repeat refine zR ?_
   refine zN ?_
   rw [za rfl]
   refine zN ?_
   refine zu [0,1,3,0,0,16,48,120,255,511,1023] rfl ?_
   repeat refine zE ?_
   refine z9 R6 (zU rfl hr6 (v:=.int .u64 (y:Int)) R2) R2 ?_
   repeat refine zE ?_
   refine z9 R6 (zU rfl hr6 (v:=.int .u64 (y:Int)) R2) R2 ?_
   refine ja _ R7 (pB (k+2) (l:=A) (d:=y) zo nA.1 ⟨zo,hy⟩ rA.sl) ?_
   rintro _ rfl
   refine ja _ R7 (pI (k+4) hG1 n1 hy (Nat.lt_trans (Nat.mod_lt _ zo) hy)) ?_
   rintro _ rfl
   refine wV _ R7 (vJ (k+5) h1 n1 (Nat.lt_of_le_of_lt (Nat.gcd_le_left _ zo) hy)) ?_
   rintro v9 h9 n9 _ ⟨L9,⟨rfl,hn9,hx9,hs9,hN9⟩,hv9,hl9,hf9⟩
   obtain ⟨a9,l9,c9,rfl,_⟩:=hs9.len
   refine ⟨xo,hn9,?_⟩
   repeat refine zE ?_
   refine zN ?_
   exact retH _ ⟨rfl,(zi rfl),rfl⟩ ⟨L9,⟨rfl,by show n≤n9;omega,hx1.trans hx9 zo,hs9,hN9⟩,by rw [hv9,iM,hg],.inl (hf9.mono zo)⟩
 obtain ⟨bB,TB,rfl,rfl,gB,hne⟩:=rB zo
 clear rB sB
 have hBp:=zdc nB (show 1≤B.length by omega)
 have hAB:=vZ nA nB hle
 repeat refine zR ?_
 refine zN ?_
 rw [ze rfl]
 refine zN ?_
 refine zM ?_
 refine zM ?_
 refine zw _ R5 (kc (k+3) rA.sl gB.sl nA nB zo hle zo hBp) ?_
 rintro _ h2 n2 _ ⟨rfl,hn2,hx2,x,y,u0,u1,u2,v0,v1,v2,r0,r1,odd,rfl,hL,d0,d1,d2,d3⟩
 refine yR R5 ?_
 refine zX [.int .u64 (u0:Int),.int .u64 (u1:Int),.int .u64 (v0:Int),.int .u64 (v1:Int),.bool odd] R8 (zg _ _ _) rfl (by show 3*n≤3*n2+2;omega) ?_
 rw [wu]
 generalize hh:upd h2 (3*n2+2) _=h3
 have q3:∃e,h3 (3*n2+2)=some (.row [.int .u64 (u0:Int),.int .u64 (u1:Int),.int .u64 (v0:Int),.int .u64 (v1:Int),.bool odd] e):=⟨_,by rw [←hh,zg]⟩
 obtain ⟨e3,q3⟩:=q3
 have hx13:Ext n1 h1 h3:=fun b hb=>by rw [←hh,zj zo,hx2 b hb]
 clear hh
 have hx3:Ext n h h3:=hx1.trans hx13 hn1
 have rA3:=rA.ext hx13 (show n1≤n2+1 by omega)
 have gB3:=gB.ext hx13 (show n1≤n2+1 by omega)
 refine zN ?_
 refine zM ?_
 refine zO R6 q3 (v:=.int .u64 (v0:Int)) R2 ?_
 by_cases hv0:v0=0
 ·repeat refine zR ?_
  refine zN ?_
  rw [ze rfl]
  refine zN ?_
  refine zM ?_
  refine zM ?_
  refine zw _ R5 (qI k rA3.sl gB3.sl nA nB zo hBp) ?_
  rintro _ h4 n4 _ ⟨vq,vr,Lq,Lr,rfl,rfl,hn4,hx4,hsq,hnq,hsr,hnr,hq,hr,_,_⟩
  obtain ⟨aq,lq,cq,rfl,_⟩:=hsq.len
  obtain ⟨ar,lr,cr,rfl,_⟩:=hsr.len
  have hml:=Nat.mod_lt (wv A) hBp
  have hlr:Lr.length≤B.length:=vZ nB hnr zo
  have elr:=hsr.lenW
  subst elr
  repeat refine zR ?_
  refine zN ?_
  refine zM ?_
  refine zM ?_
  refine zw _ R5 (xR (k+5) hsr zo) ?_
  rintro v5 h5 n5 _ ⟨rfl,hn5,hx5,hs5,hg5⟩
  obtain ⟨a5,l5,c5,rfl,_⟩:=hs5.len
  have el5:=hs5.lenW
  subst el5
  repeat refine zR ?_
  refine zN ?_
  have hx35:Ext (n2+1) h3 h5:=hx4.trans hx5 hn4
  obtain ⟨f',rfl,hf'⟩:=zhy (a:=wv B) (b:=wv A%wv B) (by
   have h1:=Nat.div_add_mod (wv A) (wv B)
   have h2:wv B*1≤wv B*(wv A/wv B):=Nat.mul_le_mul_left _ ((Nat.one_le_div_iff hBp).2 hle)
   omega) (Nat.le_refl _) hf (Nat.mul_pos hpos hBp)
  refine goOn ⟨B,TB,bB,Lr,a5,c5,f'⟩ (Nat.lt_succ_self _) ⟨rfl,rfl,trivial⟩ ⟨by show n≤n5;omega,rfl,hx3.trans hx35 (show n≤n2+1 by omega),gB3.ext hx35 (show n2+1≤n5 by omega),hs5,fun hl=>?_,nB,hnr,by show wv Lr≤wv B;rw [hr];exact Nat.le_of_lt hml,hBp,by show B.length<_;omega,by show Lr.length<_;omega,?_,by show wv B*wv Lr<_;rw [hr];exact hf'⟩
  ·obtain ⟨b7,e7,g71,g72,g73,g74,_⟩:=(hg5 (fun e=>by rw [show (GSt.mk B TB bB Lr a5 c5 f').B=Lr from rfl,e] at hl;exact absurd hl (Nat.not_succ_le_zero 0))).inv2 (show Lr.length≠0 from fun e=>by rw [show (GSt.mk B TB bB Lr a5 c5 f').B=Lr from rfl,e] at hl;exact absurd hl (Nat.not_succ_le_zero 0))
   injection e7 with e1 e2 e3
   subst e1 e3
   have:=gB.hi
   exact ⟨b7,[],rfl,rfl,⟨g71,zo,g73,by rw [List.append_nil];exact g74⟩,by show bB≠b7;omega⟩
  show Nat.gcd (wv B) (wv Lr)=g
  rw [hr,←hg,Nat.gcd_comm,←Nat.gcd_rec,Nat.gcd_comm]
 obtain ⟨a,b,hE,hO,hba,hgab,hsumA,haB⟩:=hL.done hv0
 repeat refine zR ?_
 refine zN ?_
 rw [za rfl]
 simp only [yE,xE,zK,xz]
 refine yP (α:=Nat×List Nat×List Nat×Nat) (fun z=>[(5,.slice (some ⟨bA,0,none⟩) A.length (A.length+TA.length)),(6,.slice (some ⟨z.1,0,none⟩) z.2.1.length (z.2.1.length+z.2.2.1.length)),(7,.pointer (some ⟨3*n2+2,0,none⟩))])
  (fun z h' n' w=>n'=z.2.2.2∧n2+1≤n'∧w=[]∧Ext n h h'∧GRow h' n n' bA A TA∧GRow h' n n' z.1 z.2.1 z.2.2.1∧bA≠z.1∧h' (3*n2+2)=some (.row [.int .u64 (u0:Int),.int .u64 (u1:Int),.int .u64 (v0:Int),.int .u64 (v1:Int),.bool odd] e3)∧z.2.1.length=A.length∧WdD z.2.1∧wv z.2.1=wv B) ?_ ?_
 ·refine zN ?_
  refine z8 (α:=Nat×List Nat×List Nat) (fun z=>[(5,.slice (some ⟨bA,0,none⟩) A.length (A.length+TA.length)),(6,.slice (some ⟨z.1,0,none⟩) z.2.1.length (z.2.1.length+z.2.2.length)),(7,.pointer (some ⟨3*n2+2,0,none⟩))])
   (fun z h' n' w=>n2+1≤n'∧w=[]∧Ext n h h'∧GRow h' n n' bA A TA∧GRow h' n n' z.1 z.2.1 z.2.2∧bA≠z.1∧h' (3*n2+2)=some (.row [.int .u64 (u0:Int),.int .u64 (u1:Int),.int .u64 (v0:Int),.int .u64 (v1:Int),.bool odd] e3)∧z.2.1.length≤A.length∧WdD z.2.1∧wv z.2.1=wv B) (fun z=>A.length-z.2.1.length)
   (bB,B,TB) ⟨rfl,rfl,rfl,trivial⟩ ⟨Nat.le_refl _,rfl,hx3,rA3,gB3,hne,q3,hAB,nB.1,rfl⟩ (by show A.length-B.length<LL;unfold LL;omega) ?_
  clear rA3 gB3 q3 hx3
  rintro ⟨bZ,Z,T⟩ t h4 n4 _ ⟨hn4,rfl,hx4,rA4,gZ,hne4,q4,hZl,dZ,hZv⟩
  simp only at gZ hne4 hZl dZ hZv
  refine zN ?_
  by_cases hZA:Z.length<A.length
  ·repeat refine zR ?_
   refine zN ?_
   rw [ze rfl]
   refine zN ?_
   refine zM ?_
   refine ny (cs:=u64s [0]) R5 ?_
   generalize hh:upd h4 (3*n4+2) _=h5
   have hx45:Ext n4 h4 h5:=by rw [←hh];exact Ext.upd zo
   have q5:∃e,h5 (3*n4+2)=some (.row (u64s [0]) e):=⟨_,by rw [←hh,zg]⟩
   obtain ⟨e5,q5⟩:=q5
   clear hh
   refine zez (lo:=n) (d0:=0) rfl rfl rfl rfl rfl rfl rfl rfl zd rfl (gZ.ext hx45 (Nat.le_succ n4)) (yC q5 R2) zo ⟨Nat.le_refl _,zo⟩ ?_
   intro b' T' h6 n6 hn6 g6 hx6 hb6
   repeat refine zR ?_
   refine zN ?_
   have hgm:=zfy gZ.g
   have hZhi:=gZ.hi
   have hZlo:=gZ.lo
   have hAhi:=rA4.hi
   refine goOn (b',Z++[0],T') (by show A.length-(Z++[0]).length<A.length-Z.length;rw [List.length_append,List.length_singleton];omega) ⟨rfl,by show Value.slice _ _ _=Value.slice _ _ _;rw [List.length_append];rfl,rfl,trivial⟩ ⟨by show n2+1≤n6;omega,rfl,fun b hb=>?_,⟨rA4.g,rA4.lo,by show bA<3*n6;omega,?_⟩,g6,by show bA≠b';rcases hb6 with e|e<;>omega,?_,by show (Z++[0]).length≤_;rw [List.length_append,List.length_singleton];omega,WdD.snoc dZ zd,by show wv (Z++[0])=_;rw [yH,Nat.mul_zero,Nat.add_zero,hZv]⟩
   ·exact (hx6 b zo zo).trans ((hx45 b zo).trans (hx4 b hb))
   ·exact (hx6 bA zo hne4).trans ((hx45 bA zo).trans rA4.r)
   exact (hx6 (3*n2+2) zo zo).trans ((hx45 (3*n2+2) zo).trans q4)
  repeat refine zR ?_
  refine zN ?_
  rw [za rfl]
  refine zN ?_
  exact zS (bZ,Z,T,n4) ⟨rfl,rfl,rfl,trivial⟩ ⟨rfl,hn4,rfl,hx4,rA4,gZ,hne4,q4,by show Z.length=_;omega,dZ,hZv⟩
 clear rA3 gB3 q3 hx3
 rintro ⟨bZ,Z,T,n4⟩ t h4 _ _ ⟨rfl,hn4,rfl,hx4,rA4,gZ,hne4,q4,hZl,dZ,hZv⟩
 simp only at gZ hne4 hZl dZ hZv
 refine zN ?_
 refine zV (v:=.agg #[.int .u64 (u0:Int),.int .u64 (u1:Int),.int .u64 (v0:Int),.int .u64 (v1:Int),.bool odd]) R5 (yo R2 q4 rfl zb rfl) ?_
 refine zM ?_
 refine zM ?_
 have hAlt:=ws nA.1
 refine zw _ R5 (zcz (k+3) (a:=a) (b:=b) rA4.hi gZ.hi hne4 rA4.r gZ.r zo zo hZl zo zo nA.1 dZ ⟨zo,zo,zo,zo⟩ zo zo (by rw [hZv];exact hE) (by rw [hZv];exact hO)) ?_
 rintro _ h6 n6 w6 ⟨A',B',hw6,hn6,hx6,qA,qB,dA',dB',lA',lB',vA',vB'⟩
 have hAlo:=rA4.lo
 have hZlo:=gZ.lo
 have hAhi:=rA4.hi
 have hZhi:=gZ.hi
 try simp only [tU]
 rw [z6 (w:=[]) fun y hy=>by
  show 3*n≤y
  rcases hw6 y hy with rfl|rfl
  ·exact hAlo
  ·exact hZlo]
 have rA6:GRow h6 n n6 bA A' TA:=⟨rA4.g,hAlo,zo,qA⟩
 have gB6:GRow h6 n n6 bZ B' T:=⟨gZ.g,hZlo,zo,qB⟩
 repeat refine zR ?_
 refine zN ?_
 refine zM ?_
 have tA:=xB (k+5) (l:=A') zo (fun ad e=>by injection e with e;rw [←e]) rA6.sl
 rw [lA'] at tA
 refine zw _ R5 tA ?_
 rintro _ h6 n6 _ ⟨rfl,rfl,rfl,rfl,hsA⟩
 refine zM ?_
 have tB:=xB (k+5) (l:=B') zo (fun ad e=>by injection e with e;rw [←e]) gB6.sl
 rw [lB',←hZl] at tB
 refine zw _ R5 tB ?_
 rintro _ h6 n6 _ ⟨rfl,rfl,rfl,rfl,hsB⟩
 repeat refine zR ?_
 refine zN ?_
 have hNA:=wk dA'
 have hNB:=wk dB'
 rw [vA'] at hNA
 rw [vB'] at hNB
 have hap:0<a:=by
  rcases Nat.eq_zero_or_pos a with h0|h0
  ·have hb0:b=0:=zo
   rw [h0,hb0,Nat.gcd_zero_right] at hgab
   have:=Nat.gcd_pos_of_pos_left (wv B) hpos
   omega
  exact h0
 obtain ⟨f',rfl,hf'⟩:=zhy (a:=a) (b:=b) zo haB hf (Nat.mul_pos hpos hBp)
 have hcA:=GRow.cap (A:=A') (T:=TA)
 have hcB:=GRow.cap (A:=B') (T:=T)
 have hla:(z5 A').length≤B.length:=vZ nB hNA.1 (by rw [hNA.2];exact haB)
 have hlb:(z5 B').length≤(z5 A').length:=vZ hNA.1 hNB.1 (by rw [hNA.2,hNB.2];exact hba)
 exact goOn ⟨z5 A',A'.drop (z5 A').length++TA,bA,z5 B',some ⟨bZ,0,none⟩,Z.length+T.length,f'⟩ (Nat.lt_succ_self _) ⟨by show Value.slice _ _ _=Value.slice _ _ _;rw [hcA,lA'],rfl,trivial⟩ ⟨by show n≤n6;omega,rfl,fun c hc=>(hx6 c zo zo zo).trans (hx4 c hc),rA6.cut,hsB,fun _=>⟨bZ,B'.drop (z5 B').length++T,rfl,by show Z.length+T.length=_;rw [hcB];omega,gB6.cut,hne4⟩,hNA.1,hNB.1,by show wv (z5 B')≤wv (z5 A');rw [hNA.2,hNB.2];exact hba,by show 0<wv (z5 A');rw [hNA.2];exact hap,by show (z5 A').length<_;omega,by show (z5 B').length<_;omega,by show Nat.gcd (wv (z5 A')) (wv (z5 B'))=g;rw [hNA.2,hNB.2,hgab,hg],by show wv (z5 A')*wv (z5 B')<_;rw [hNA.2,hNB.2];exact hf'⟩
end
theorem dV (k:Nat)(h:HF)(n:Nat)(neg:Bool)(a:Option Addr)(l c:Nat):CF (cal (k+1)) 77 [.bool neg,.slice a l c] h n fun v h' n' w=>v=.agg #[.bool (neg&&decide (0<l)),.slice a l c]∧n'=n+1∧w=[]∧Ext n h h':=by
 refine zv (fn:=Tryz.f77) R4 ?_
 refine zN ?_
 refine yR R5 ?_
 refine zN ?_
 cases neg
 ·repeat refine zR ?_
  refine zX [.bool false,.slice a l c] R8 (zg _ _ _) rfl (by show 3*n≤_;omega) ?_
  refine zN ?_
  exact uR R5 (zg _ _ _) rfl ⟨rfl,rfl,rfl,by rw [wu];exact Ext.upd zo⟩
 by_cases hl:0<l
 ·repeat refine zR ?_
  refine zX [.bool true,.slice a l c] R8 (zg _ _ _) rfl (by show 3*n≤_;omega) ?_
  refine zN ?_
  exact uR R5 (zg _ _ _) rfl ⟨by rw [decide_eq_true hl];rfl,rfl,rfl,by rw [wu];exact Ext.upd zo⟩
 repeat refine zR ?_
 refine zX [.bool false,.slice a l c] R8 (zg _ _ _) rfl (by show 3*n≤_;omega) ?_
 refine zN ?_
 exact uR R5 (zg _ _ _) rfl ⟨by rw [decide_eq_false hl];rfl,rfl,rfl,by rw [wu];exact Ext.upd zo⟩
theorem NW.zero_iff {L:List Nat}(h:NW L):wv L=0↔L=[]:=⟨fun e=>h.inj NW.nil (by rw [e];rfl),fun e=>by rw [e];rfl⟩
section
variable {l:Nat}{e:TypeId}{a:Option Addr}
def Gw (n:Nat)(h:HF)(P:Value→HF→Nat→Prop):Value→HF→Nat→List Nat→Prop:=fun v h' n' w=>w=[]∧n≤n'∧Ext n h h'∧P v h' n'
def CX (C:CalF)(f:FuncId)(args:List Value)(h:HF)(n:Nat)(P:Value→HF→Nat→Prop):Prop:=CF C f args h n (Gw n h P)
theorem VF.cx {C:CalF}{h:HF}{n:Nat}{P:Value→Prop}(c:VF C f args h n P):CX C f args h n fun v _ _=>P v:=by
 refine xU c ?_
 rintro v _ _ _ ⟨rfl,rfl,rfl,hp⟩
 exact ⟨rfl,Nat.le_refl _,Ext.refl _ _,hp⟩
theorem CX.mono {C:CalF}{h:HF}{n:Nat}{P P':Value→HF→Nat→Prop}(c:CX C f args h n P)(hp:∀v h' n',P v h' n'→P' v h' n'):CX C f args h n P':=by
 refine xU c ?_
 rintro v _ _ _ ⟨hw,hn,hx,hq⟩
 exact ⟨hw,hn,hx,hp _ _ _ hq⟩
def Only (b:Nat)(h h':HF):Prop:=∀c,c≠b→h' c=h c
theorem Ext.st {n:Nat}{h h1 h2:HF}(x:Ext n h h1)(o:Only b h1 h2)(hb:3*n≤b):Ext n h h2:=fun c hc=>(o c zo).trans (x c hc)
section
variable {X:CtxF}{ops r:List Oper}{t:TF}{h:HF}{n:Nat}{w:List Nat}{Q:SV→Prop}{o:Oper}{d:Tmp}
theorem nl (cs:List Value)(hw:zh ops t o=true∧o.dst=some d∧zn X.nt (some d)=true∧cls o.op=2∧mkE X.E o.op (evF t)=some ⟨cs,e,false,none⟩)
  (k:∀h',h' (3*n+2)=some (.row cs e)→Ext n h h'→EO X ops r ⟨upd t d (.pointer (some ⟨3*n+2,0,none⟩)),h',n+1,w⟩ Q):EO X ops (o::r) ⟨t,h,n,w⟩ Q:=by obtain ⟨hw,hd,hn,hc,hm⟩:=hw;exact nz ⟨hw,hd,hn,hc,hm⟩ (k _ (zg _ _ _) (Ext.upd zo))
theorem wI (cs:List Value)(hw:zh ops t o=true∧o.dst=some d∧zn X.nt (some d)=true∧o.op=.alloc e∧X.E.inf e=some (sz,bt,z)∧zl z=cs)
  (k:∀h',h' (3*n+2)=some (.row cs e)→Ext n h h'→EO X ops r ⟨upd t d (.pointer (some ⟨3*n+2,0,none⟩)),h',n+1,w⟩ Q):EO X ops (o::r) ⟨t,h,n,w⟩ Q:=by
 obtain ⟨hw,hd,hn,ho,hi,hz⟩:=hw
 subst hz
 exact yR ⟨hw,hd,hn,ho,hi⟩ (k _ (zg _ _ _) (Ext.upd zo))
theorem db {a x:Operand}(c':List Value)(hw:zh ops t o=true∧o.dst=none∧o.op=.store ty a x∧X.E.inf ty=some (sz,bt,z)∧evF t a=.pointer (some ⟨b,off,none⟩))(hb:h b=some (.row c e))(hx:zl (evF t x)=cs)(hs:cs.length=sz)(h1:ones cs=true)(hl:off+sz≤c.length)(hsp:zm c off cs=c')(hnew:3*X.n0≤b)
  (k:∀h',h' b=some (.row c' e)→Only b h h'→EO X ops r ⟨t,h',n,w⟩ Q):EO X ops (o::r) ⟨t,h,n,w⟩ Q:=by
 obtain ⟨hw,hd,ho,hi,ha⟩:=hw
 subst hsp
 exact ym ⟨hw,hd,ho,hi,ha,hx,hs,h1⟩ hb hl hnew (k _ (zg _ _ _) fun c hc=>zj hc)
theorem dc {P:Value→HF→Nat→Prop}(hw:zh ops t o=true)(hd:o.dst=some d)(hn:zn X.nt (some d)=true)(hc:cls o.op=3)(he:effF X.E o.op (evF t) h n=some (.enter f args))(hcall:CX X.C f args h n P)
  (k:∀v h' n',P v h' n'→n≤n'→Ext n h h'→EO X ops r ⟨upd t d v,h',n',w⟩ Q):EO X ops (o::r) ⟨t,h,n,w⟩ Q:=by
 refine zw _ ⟨hw,hd,hn,hc,he⟩ hcall ?_
 rintro v h' n' _ ⟨rfl,h2,h3,h4⟩
 exact k v h' n' h4 h2 h3
end
section
variable {X:CtxF}{ops r:List Oper}{ms:List Nat}{i m:Nat}{t:TF}{h:HF}{n:Nat}{w:List Nat}{al ld:List (Nat×Nat)}{ef:List (Nat×HF×List Nat)}{Q:SV→Prop}{o:Oper}{d:Tmp}
theorem zgx (cs:List Value)(hw:zh ops t o=true)(hd:o.dst=some d)(hn:zn X.nt (some d)=true)(hc:cls o.op=2)(hm:mkE X.E o.op (evF t)=some ⟨cs,e,false,none⟩)
  (k:∀h',h' (3*n+2)=some (.row cs e)→Ext n h h'→ED X ops r ms (i+1) ⟨⟨upd t d (.pointer (some ⟨3*n+2,0,none⟩)),h',n+1,w⟩,(i,3*n+2)::al,ld,ef⟩ Q):ED X ops (o::r) (m::ms) i ⟨⟨t,h,n,w⟩,al,ld,ef⟩ Q:=
 zh8 hw hd hn hc hm (k _ (zg _ _ _) (Ext.upd zo))
theorem zgw {a x:Operand}(c':List Value)(hw:zh ops t o=true)(hd:o.dst=none)(ho:o.op=.store ty a x)(hi:X.E.inf ty=some (sz,bt,z))(ha:evF t a=.pointer (some ⟨b,off,none⟩))(hb:h b=some (.row c e))(hx:zl (evF t x)=cs)(hs:cs.length=sz)(h1:ones cs=true)(hl:off+sz≤c.length)(hsp:zm c off cs=c')(hnew:3*X.n0≤b)(g1:xc m ef=true)(g2:xA m al=true)(g3:z0 m [b] ld=true)
  (k:∀h',h' b=some (.row c' e)→Only b h h'→ED X ops r ms (i+1) ⟨⟨t,h',n,w⟩,al,ld,(i,h,[b])::ef⟩ Q):ED X ops (o::r) (m::ms) i ⟨⟨t,h,n,w⟩,al,ld,ef⟩ Q:=by
 subst hsp
 exact ui ⟨hw,hd,ho,hi,ha,hx,hs,h1⟩ hb hl hnew g1 g2 g3 (k _ (zg _ _ _) fun c hc=>zj hc)
theorem zeq {P:Value→HF→Nat→Prop}(hw:zh ops t o=true)(hd:o.dst=some d)(hn:zn X.nt (some d)=true)(hc:cls o.op=3)(he:effF X.E o.op (evF t) h n=some (.enter f args))(hcall:CX X.C f args h n P)(h1:xc m ef=true)(h2:xA m al=true)
  (k:∀v h' n',P v h' n'→n≤n'→Ext n h h'→ED X ops r ms (i+1) ⟨⟨upd t d v,h',n',w⟩,al,ld,(i,h,[])::ef⟩ Q):ED X ops (o::r) (m::ms) i ⟨⟨t,h,n,w⟩,al,ld,ef⟩ Q:=by
 refine wV _ ⟨hw,hd,hn,hc,he,h1,h2⟩ hcall ?_
 rintro v h' n' _ ⟨rfl,h2,h3,h4⟩
 exact ⟨xo,h2,k v h' n' h4 h2 h3⟩
end
theorem rd {s:SV}:resF env s []=some []:=rfl
theorem yF {s:SV}{a:Tmp}{r:List ResultVar}(h:s.t a=v)(hr:resF env s r=some vs):resF env s (.tmp a::r)=some (v::vs):=by
 simp only [resF,hr,h]
theorem xG {s:SV}{a:Tmp}{ad:Addr}{r:List ResultVar}(ha:s.t a=.pointer (some ad))(hl:yd env ty s.h ad=some v)(hr:resF env s r=some vs):resF env s (.cell a ty::r)=some (v::vs):=by
 simp only [resF,ha,hl,hr]
theorem retX {P:Value→HF→Nat→Prop}{e:Ex}{t:TF}{h:HF}{n:Nat}(vs:List Value)(he:su e=true)(hr:resF env ⟨t,h,n,[]⟩ fn.results.toList=some vs)(hf:ue vs=false)(hn:n0≤n)(hx:Ext n0 h0 h)(hp:P (sm vs) h n):RetH fn (Gw n0 h0 P) e ⟨t,h,n,[]⟩:=
 retH vs ⟨he,hr,hf⟩ ⟨rfl,hn,hx,hp⟩
def nu:Value→Bool
 | .int .u64 _=>false
 | .int .u32 _=>false
 |_=>true
theorem Sl.onlyG {h:HF}{n:Nat}(s:Sl h n 1 v cl)(hcl:∀x∈cl,nu x=false)(hp:h b=some (.row cs e))(hu:cs.all nu=true)(ho:Only b h h'):Sl h' n 1 v cl:=by
 cases s with
 |nil ha=>exact .nil ha
 | @at_ b2 off len cap x cs2 c2 hb hx hc hcap hl he=>
  by_cases h0:len=0
  ·subst h0
   have:cl=[]:=by rw [←he];simp
   subst this
   exact .nil (.inr ⟨_,_,_,rfl,hb⟩)
  have hne:b2≠b:=by
   intro e2
   subst e2
   rw [hp] at hx
   cases hx
   injection hc with hc
   subst hc
   have hL:cl.length=len:=by rw [←he,List.length_take,List.length_drop];omega
   obtain ⟨d,L',rfl⟩:∃d L',cl=d::L':=by
    cases cl with
    |nil=>exact absurd hL.symm h0
    |cons d L'=>exact ⟨d,L',rfl⟩
   have hm:d∈cs:=by
    have:d∈(cs.drop off).take (len*1):=by rw [he];exact List.mem_cons_self
    exact List.mem_of_mem_drop (List.mem_of_mem_take this)
   have:=List.all_eq_true.1 hu _ hm
   rw [hcl d List.mem_cons_self] at this
   cases this
  exact .at_ hb (by rw [ho _ hne];exact hx) hc hcap hl he
theorem Sl.only {h:HF}{n:Nat}(s:Sl h n 1 v (u64s L))(hp:h b=some (.row cs e))(hu:cs.all nu=true)(ho:Only b h h'):Sl h' n 1 v (u64s L):=
 s.onlyG (fun x hx=>by obtain ⟨d,_,rfl⟩:=List.mem_map.1 hx;rfl) hp hu ho
theorem Sl.only32 {h:HF}{n:Nat}(s:Sl h n 1 v (u32s L))(hp:h b=some (.row cs e))(hu:cs.all nu=true)(ho:Only b h h'):Sl h' n 1 v (u32s L):=
 s.onlyG (fun x hx=>by obtain ⟨d,_,rfl⟩:=List.mem_map.1 hx;rfl) hp hu ho
def WW (h:HF)(n:Nat)(a:Option Addr)(l c m:Nat):Prop:=∃L,Sl h n 1 (.slice a l c) (u64s L)∧NW L∧wv L=m
theorem WW.ext {h:HF}{n:Nat}{c m:Nat}(i:WW h n a l c m)(e:Ext n h h')(hn:n≤n'):WW h' n' a l c m:=by
 obtain ⟨L,h1,h2,h3⟩:=i
 exact ⟨L,h1.ext e hn,h2,h3⟩
theorem WW.only {h:HF}{n:Nat}{c m:Nat}(i:WW h n a l c m)(hp:h bb=some (.row cs e))(hu:cs.all nu=true)(ho:Only bb h h'):WW h' n a l c m:=by
 obtain ⟨L,h1,h2,h3⟩:=i
 exact ⟨L,h1.only hp hu ho,h2,h3⟩
theorem WW.zero {h:HF}{n:Nat}{c m:Nat}(i:WW h n a l c m):l=0↔m=0:=by
 obtain ⟨L,h1,h2,h3⟩:=i
 have e:=h1.lenW
 rw [←h3,h2.zero_iff,←List.length_eq_zero_iff,e]
theorem WW.as {h:HF}{n:Nat}{c m:Nat}(i:WW h n a l c m)(e:m=m'):WW h n a l c m':=e▸i
theorem WW.nil (h:HF)(n:Nat):WW h n none 0 0 0:=⟨[],.nil (.inl rfl),NW.nil,rfl⟩
def IW (h:HF)(n:Nat)(b:Bool)(a:Option Addr)(l c:Nat)(x:Int):Prop:=b=decide (x<0)∧WW h n a l c x.natAbs
theorem IW.ext {h:HF}{n:Nat}{b:Bool}{c:Nat}{x:Int}(i:IW h n b a l c x)(e:Ext n h h')(hn:n≤n'):IW h' n' b a l c x:=⟨i.1,i.2.ext e hn⟩
theorem IW.only {h:HF}{n:Nat}{b:Bool}{c:Nat}{x:Int}(i:IW h n b a l c x)(hp:h bb=some (.row cs e))(hu:cs.all nu=true)(ho:Only bb h h'):IW h' n b a l c x:=⟨i.1,i.2.only hp hu ho⟩
theorem IW.as {h:HF}{n:Nat}{b:Bool}{c:Nat}{x y:Int}(i:IW h n b a l c x)(e:x=y):IW h n b a l c y:=e▸i
theorem IW.lt {h:HF}{n:Nat}{c:Nat}{x:Int}(i:IW h n true a l c x):x<0:=of_decide_eq_true i.1.symm
theorem IW.ge {h:HF}{n:Nat}{c:Nat}{x:Int}(i:IW h n false a l c x):0≤x:=Int.not_lt.1 (of_decide_eq_false i.1.symm)
def IV (x:Int)(v:Value)(h:HF)(n:Nat):Prop:=∃b a l c,v=.agg #[.bool b,.slice a l c]∧IW h n b a l c x
def WV (m:Nat)(v:Value)(h:HF)(n:Nat):Prop:=∃a l c,v=.slice a l c∧WW h n a l c m
def BV (p:Prop)(v:Value)(_:HF)(_:Nat):Prop:=∃b:Bool,v=.bool b∧(b=true↔p)
def SV3 (x:Int)(v:Value)(_:HF)(_:Nat):Prop:=∃s:Int,v=.int .i64 s∧(s= -1∧x<0∨s=0∧x=0∨s=1∧0<x)
theorem IW.zero (h:HF)(n:Nat):IW h n false none 0 0 0:=⟨rfl,WW.nil h n⟩
def GG (h:HF)(n:Nat):Prop:=GK.G h∧20≤n
theorem GG.ext {h:HF}{n:Nat}(g:GG h n)(e:Ext n h h')(hn:n≤n'):GG h' n':=⟨vT g.1 e g.2,Nat.le_trans g.2 hn⟩
theorem GG.only {h:HF}{n:Nat}(g:GG h n)(hp:h bb=some (.row cs e))(_:cs.all nu=true)(ho:Only bb h h'):GG h' n:=by
 obtain ⟨⟨g1,g2,g3⟩,g4⟩:=g
 refine ⟨⟨(ho _ ?_).trans g1,(ho _ ?_).trans g2,(ho _ ?_).trans g3⟩,g4⟩<;>(intro e2;subst e2)
 ·rw [hp] at g1;cases g1
 ·rw [hp] at g2;cases g2
 rw [hp] at g3;cases g3
def BW:Nat:=18446744073709551616^39
theorem wg {m e:Nat}(h:m<2^e)(he:e≤2496):m<BW:=by
 have h1:e≤64*39:=he
 generalize hk:39=k at h1
 have h2:m<(2^64)^k:=by
  rw [←Nat.pow_mul]
  exact Nat.lt_of_lt_of_le h (Nat.pow_le_pow_right zd h1)
 subst hk
 exact h2
theorem NW.len39 (h:NW L)(hb:wv L<BW):L.length≤39:=h.len_le hb
def sgZ (b:Bool)(m:Nat):Int:=if b then -(m:Int) else m
theorem ze4 (b:Bool)(m:Nat):(sgZ b m).natAbs=m:=by unfold sgZ;split<;>omega
theorem ze3 (b:Bool)(m:Nat):decide (sgZ b m<0)=(b&&decide (0<m)):=by
 unfold sgZ
 cases b
 ·rw [Bool.false_and,decide_eq_false_iff_not];simp
 rw [Bool.true_and]
 by_cases h:0<m
 ·rw [decide_eq_true h,decide_eq_true];simp;omega
 rw [decide_eq_false h,decide_eq_false];simp;omega
theorem yr (k:Nat){h:HF}{n:Nat}{c m:Nat}(i:WW h n a l c m)(neg:Bool):CX (cal (k+1)) 77 [.bool neg,.slice a l c] h n (IV (sgZ neg m)):=by
 refine xU (dV k h n neg a l c) ?_
 rintro _ h' n' _ ⟨rfl,rfl,rfl,hx⟩
 refine ⟨rfl,Nat.le_succ _,hx,_,_,_,_,rfl,?_,?_⟩
 ·rw [ze3]
  have:=i.zero
  congr 1
  by_cases h0:0<l
  ·rw [decide_eq_true h0,decide_eq_true zo]
  rw [decide_eq_false h0,decide_eq_false zo]
 rw [ze4]
 exact i.ext hx zs
theorem ResW.ww {n:Nat}{h:HF}{w:List Nat}(r:ResW n h v h' n' w L){m:Nat}(e:wv L=m):w=[]∧n≤n'∧Ext n h h'∧WV m v h' n':=by
 obtain ⟨h1,h2,h3,h4,h5⟩:=r
 obtain ⟨a,l,c,rfl,_⟩:=h4.len
 exact ⟨h1,h2,h3,_,_,_,rfl,L,h4,h5,e⟩
section
variable (k:Nat){h:HF}{n:Nat}{a1 a2:Option Addr}{l1 c1 l2 c2 x y:Nat}
theorem zii (i:WW h n a1 l1 c1 x)(j:WW h n a2 l2 c2 y)(hb:x<BW∧y<BW):CX (cal (k+2)) 78 [.slice a1 l1 c1,.slice a2 l2 c2] h n (WV (x+y)):=by
 obtain ⟨A,hA,nA,rfl⟩:=i
 obtain ⟨C,hC,nC,rfl⟩:=j
 have:=nA.len39 hb.1
 have:=nC.len39 hb.2
 refine xU (jz k hA hC nA nC zo) ?_
 rintro v h' n' w ⟨L,r,e,_⟩
 exact r.ww e
theorem fc (i:WW h n a1 l1 c1 x)(j:WW h n a2 l2 c2 y)(hb:x<BW∧y<BW)(hle:y≤x):CX (cal (k+2)) 80 [.slice a1 l1 c1,.slice a2 l2 c2] h n (WV (x-y)):=by
 obtain ⟨A,hA,nA,rfl⟩:=i
 obtain ⟨C,hC,nC,rfl⟩:=j
 have:=nA.len39 hb.1
 refine xU (lN k hA hC nA nC zo hle) ?_
 rintro v h' n' w ⟨L,r,e,_⟩
 exact r.ww e
theorem cH (i:WW h n a1 l1 c1 x)(j:WW h n a2 l2 c2 y)(hb:x<BW∧y<BW):CX (cal (k+3)) 81 [.slice a1 l1 c1,.slice a2 l2 c2] h n (WV (x*y)):=by
 obtain ⟨A,hA,nA,rfl⟩:=i
 obtain ⟨C,hC,nC,rfl⟩:=j
 have:=nA.len39 hb.1
 have:=nC.len39 hb.2
 refine xU (kv k hA hC nA nC zo zo) ?_
 rintro v h' n' w ⟨L,r,e,_⟩
 exact r.ww e
theorem zh9 (i:WW h n a1 l1 c1 x)(j:WW h n a2 l2 c2 y)(hb:x<BW∧y<BW)(h0:0<y):CX (cal (k+6)) 114 [.slice a1 l1 c1,.slice a2 l2 c2] h n fun v h' n'=>∃a l c a' l' c',v=.tuple #[.slice a l c,.slice a' l' c']∧WW h' n' a l c (x/y)∧WW h' n' a' l' c' (x%y):=by
 obtain ⟨A,hA,nA,rfl⟩:=i
 obtain ⟨C,hC,nC,rfl⟩:=j
 have:=nA.len39 hb.1
 have:=nC.len39 hb.2
 refine xU (qI k hA hC nA nC zo h0) ?_
 rintro v h' n' w ⟨vq,vr,Lq,Lr,rfl,h1,h2,h3,h4,h5,h6,h7,h8,h9,_⟩
 obtain ⟨a,l,c,rfl,_⟩:=h4.len
 obtain ⟨a',l',c',rfl,_⟩:=h6.len
 exact ⟨h1,h2,h3,_,_,_,_,_,_,rfl,⟨Lq,h4,h5,h8⟩,⟨Lr,h6,h7,h9⟩⟩
theorem zh1 (g:GG h n)(i:WW h n a1 l1 c1 x)(j:WW h n a2 l2 c2 y)(hb:x<BW∧y<BW):CX (cal (k+7)) 82 [.slice a1 l1 c1,.slice a2 l2 c2] h n (WV (Nat.gcd x y)):=by
 obtain ⟨A,hA,nA,rfl⟩:=i
 obtain ⟨C,hC,nC,rfl⟩:=j
 have:=nA.len39 hb.1
 have:=nC.len39 hb.2
 refine xU (kN k g.1 g.2 hA hC nA nC zo) ?_
 rintro v h' n' w ⟨L,r,e,_⟩
 exact r.ww e
theorem ei (i:WW h n a1 l1 c1 x)(j:WW h n a2 l2 c2 y)(hb:x<BW∧y<BW):CX (cal (k+3)) 79 [.slice a1 l1 c1,.slice a2 l2 c2] h n (SV3 ((x:Int)-y)):=by
 obtain ⟨A,hA,nA,rfl⟩:=i
 obtain ⟨C,hC,nC,rfl⟩:=j
 have:=nA.len39 hb.1
 refine (vL k hA hC nA nC zo).cx.mono ?_
 rintro _ _ _ rfl
 refine ⟨_,rfl,?_⟩
 rcases Nat.lt_trichotomy (wv A) (wv C) with h|h|h
 ·exact .inl ⟨ul h,zo⟩
 ·exact .inr (.inl ⟨by rw [h];exact qQ _,zo⟩)
 exact .inr (.inr ⟨um h,zo⟩)
theorem zh4 (h:HF)(n:Nat){w:Nat}(hw:w<18446744073709551616):CX (cal (k+1)) 91 [.int .u64 (w:Int)] h n (WV w):=by
 refine xU (vJ k h n hw) ?_
 rintro v h' n' w ⟨L,r,e,_⟩
 exact r.ww e
end
end
section
variable {p:Prop}{bt lo n' off sz u:Nat}{h' h0:HF}{args c cl cs vs:List Value}{v x1 x10 x2 x3 x4 x5 x6 x7 x8 x9 z:Value}{E:Env}{ty ty':TypeId}{y:Operand}{f:FuncId}{fn:Func}{α:Type}
theorem bvs {b:Bool}(h:b=true↔p):b=false∧¬p∨b=true∧p:=by
 cases b
 ·exact .inl ⟨rfl,fun hp=>by cases h.2 hp⟩
 exact .inr ⟨rfl,h.1 rfl⟩
theorem zhh (h:p:=by first|exact ⟨hx,hy⟩|exact ⟨hy,hx⟩):p:=h
theorem zno (h:¬p):∃b:Bool,Value.bool false=.bool b∧(b=true↔p):=⟨_,rfl,fun hq=>(by cases hq),fun hq=>absurd hq h⟩
theorem zye (h:p):∃b:Bool,Value.bool true=.bool b∧(b=true↔p):=⟨_,rfl,fun _=>h,fun _=>rfl⟩
def Sto (b:Nat)(h h':HF):Prop:=Only b h h'∧∃cs e,h b=some (.row cs e)∧cs.all nu=true
def ExtB (n:Nat)(B:List Nat)(h h':HF):Prop:=∀b,b<3*n→b∉B→h' b=h b
theorem ExtB.refl (n:Nat)(B:List Nat)(h:HF):ExtB n B h h:=fun _ _ _=>rfl
theorem ExtB.ext {n:Nat}{B:List Nat}{a b c:HF}(x:ExtB n B a b)(y:Ext n' b c)(hn:n≤n'):ExtB n B a c:=fun k hk hb=>(y k zo).trans (x k hk hb)
theorem ExtB.st {n m:Nat}{B:List Nat}{a b c:HF}(x:ExtB n B a b)(o:Only m b c)(hm:3*n≤m∨m∈B):ExtB n B a c:=fun k hk hb=>by
 refine (o k fun e=>?_).trans (x k hk hb)
 subst e
 rcases hm with hm|hm
 ·omega
 exact hb hm
theorem ExtB.trans {n m:Nat}{B C:List Nat}{a b c:HF}(x:ExtB n B a b)(y:ExtB m C b c)(hm:n≤m)(hC:∀k∈C,k∈B∨3*n≤k):ExtB n B a c:=fun k hk hb=>(y k zo fun hc=>by rcases hC k hc with h|h;exact hb h;omega).trans (x k hk hb)
theorem ExtB.to {n m:Nat}{B:List Nat}{a b:HF}(x:ExtB n B a b)(hm:m≤n)(hB:∀k∈B,3*m≤k):Ext m a b:=fun k hk=>x k zo fun hb=>by have:=hB k hb;omega
structure Exa (n:Nat)(h h':HF):Prop where
 e:Ext n h h'
theorem Exa.zz {n b:Nat}{h:HF}{y:Option BF}(x:Exa n h h')(hb:b<3*n)(e:h b=y):h' b=y:=(x.e b hb).trans e
theorem Ext.zz {n b:Nat}{h:HF}{y:Option BF}(x:Ext n h h')(hb:b<3*n)(e:h b=y):h' b=y:=(x b hb).trans e
theorem Only.zz {b c:Nat}{h:HF}{y:Option BF}(x:Only b h h')(hb:c≠b)(e:h c=y):h' c=y:=(x c hb).trans e
theorem Sto.zz {b c:Nat}{h:HF}{y:Option BF}(x:Sto b h h')(hb:c≠b)(e:h c=y):h' c=y:=(x.1 c hb).trans e
theorem ExtB.zz {n b:Nat}{B:List Nat}{h:HF}{y:Option BF}(x:ExtB n B h h')(hb:b<3*n)(hB:b∉B)(e:h b=y):h' b=y:=(x b hb hB).trans e
def Nur (o:Option BF):Prop:=∃x,o=some x∧((∃cs e,x=.row cs e∧cs.all nu=true)∨x.cells=none)
theorem Nur.row {e:TypeId}{o:Option BF}(h:o=some (.row cs e))(hu:cs.all nu=true):Nur o:=⟨_,h,.inl ⟨_,_,rfl,hu⟩⟩
def Lpo (b:Nat)(h h':HF):Prop:=Only b h h'∧∃x,h b=some x∧x.cells=none
theorem Lpo.zz {b c:Nat}{h:HF}{y:Option BF}(x:Lpo b h h')(hb:c≠b)(e:h c=y):h' c=y:=(x.1 c hb).trans e
def Tr (n:Nat)(h:HF)(n':Nat)(h':HF):Prop:=n≤n'∧∀c,c<3*n→h' c=h c∨Nur (h c)
def Tx (n:Nat)(h:HF)(n':Nat)(h':HF):Prop:=n≤n'∧Ext n h h'
def Ty (n:Nat)(B:List Nat)(h:HF)(n':Nat)(h':HF):Prop:=n≤n'∧ExtB n B h h'
section
variable {n n1 n2 b:Nat}{B C:List Nat}{h h1 h2:HF}
theorem Tr.refl (n:Nat)(h:HF):Tr n h n h:=⟨Nat.le_refl _,fun _ _=>.inl rfl⟩
theorem Tr.e (x:Ext n1 h1 h2)(hn:n1≤n2)(t:Tr n h n1 h1):Tr n h n2 h2:=⟨Nat.le_trans t.1 hn,fun c hc=>by rw [x c (by have:=t.1;omega)];exact t.2 c hc⟩
theorem Tr.s (x:Sto b h1 h2)(t:Tr n h n1 h1):Tr n h n1 h2:=by
 refine ⟨t.1,fun c hc=>?_⟩
 by_cases e:c=b
 ·subst e
  obtain ⟨cs,e,hp,hu⟩:=x.2
  rcases t.2 c hc with h3|h3
  ·rw [h3] at hp;exact .inr (.row hp hu)
  exact .inr h3
 rw [x.1 c e];exact t.2 c hc
theorem Tr.l (x:Lpo b h1 h2)(t:Tr n h n1 h1):Tr n h n1 h2:=by
 refine ⟨t.1,fun c hc=>?_⟩
 by_cases e:c=b
 ·subst e
  obtain ⟨y,hp,hu⟩:=x.2
  rcases t.2 c hc with h3|h3
  ·rw [h3] at hp;exact .inr ⟨y,hp,.inr hu⟩
  exact .inr h3
 rw [x.1 c e];exact t.2 c hc
theorem Tr.trans {n1 n2:Nat}{h1 h2:HF}(a:Tr n h n1 h1)(b:Tr n1 h1 n2 h2):Tr n h n2 h2:=by
 refine ⟨Nat.le_trans a.1 b.1,fun c hc=>?_⟩
 rcases b.2 c (by have:=a.1;omega) with e|e
 ·rw [e];exact a.2 c hc
 rcases a.2 c hc with e2|e2
 ·rw [e2] at e;exact .inr e
 exact .inr e2
theorem Tx.lp (x:Lpo b h1 h2)(hb:3*n≤b)(t:Tx n h n1 h1):Tx n h n1 h2:=⟨t.1,t.2.st x.1 hb⟩
theorem Ty.lp (x:Lpo b h1 h2)(hb:3*n≤b∨b∈B)(t:Ty n B h n1 h1):Ty n B h n1 h2:=⟨t.1,t.2.st x.1 hb⟩
theorem Tx.refl (n:Nat)(h:HF):Tx n h n h:=⟨Nat.le_refl _,Ext.refl _ _⟩
theorem Tx.e (x:Ext n1 h1 h2)(hn:n1≤n2)(t:Tx n h n1 h1):Tx n h n2 h2:=⟨Nat.le_trans t.1 hn,t.2.trans x t.1⟩
theorem Tx.a (x:Exa lo h1 h2)(hl:n≤lo)(hn:n≤n2)(t:Tx n h n1 h1):Tx n h n2 h2:=⟨hn,t.2.trans x.e hl⟩
theorem Tx.o (x:Only b h1 h2)(hb:3*n≤b)(t:Tx n h n1 h1):Tx n h n1 h2:=⟨t.1,t.2.st x hb⟩
theorem Tx.s (x:Sto b h1 h2)(hb:3*n≤b)(t:Tx n h n1 h1):Tx n h n1 h2:=⟨t.1,t.2.st x.1 hb⟩
theorem Tx.l (x:ExtB n1 B h1 h2)(hn:n1≤n2)(hB:∀k∈B,3*n≤k)(t:Tx n h n1 h1):Tx n h n2 h2:=⟨Nat.le_trans t.1 hn,t.2.trans (x.to t.1 hB) (Nat.le_refl _)⟩
theorem Ty.refl (n:Nat)(B:List Nat)(h:HF):Ty n B h n h:=⟨Nat.le_refl _,ExtB.refl _ _ _⟩
theorem Ty.e (x:Ext n1 h1 h2)(hn:n1≤n2)(t:Ty n B h n1 h1):Ty n B h n2 h2:=⟨Nat.le_trans t.1 hn,t.2.ext x t.1⟩
theorem Ty.a (x:Exa lo h1 h2)(hl:n≤lo)(hn:n≤n2)(t:Ty n B h n1 h1):Ty n B h n2 h2:=⟨hn,t.2.ext x.e hl⟩
theorem Ty.o (x:Only b h1 h2)(hb:3*n≤b∨b∈B)(t:Ty n B h n1 h1):Ty n B h n1 h2:=⟨t.1,t.2.st x hb⟩
theorem Ty.s (x:Sto b h1 h2)(hb:3*n≤b∨b∈B)(t:Ty n B h n1 h1):Ty n B h n1 h2:=⟨t.1,t.2.st x.1 hb⟩
theorem Ty.l (x:ExtB n1 C h1 h2)(hn:n1≤n2)(hC:∀k∈C,k∈B∨3*n≤k)(t:Ty n B h n1 h1):Ty n B h n2 h2:=⟨Nat.le_trans t.1 hn,t.2.trans x t.1 hC⟩
end
theorem Sl.trG {h:HF}{n:Nat}(s:Sl h n 1 v cl)(hcl:∀x∈cl,nu x=false)(t:Tr n h n' h'):Sl h' n' 1 v cl:=by
 cases s with
 |nil ha=>exact .nil (vD ha t.1)
 | @at_ b2 off len cap x cs2 c2 hb hx hc hcap hl he=>
  have hb':b2<3*n':=by have:=t.1;omega
  rcases t.2 b2 hb with e|⟨y,hp,⟨cs,e,rfl,hu⟩|hn⟩
  ·exact .at_ hb' (e.trans hx) hc hcap hl he
  ·by_cases h0:len=0
   ·subst h0
    have:cl=[]:=by rw [←he];simp
    subst this
    exact .nil (.inr ⟨_,_,_,rfl,hb'⟩)
   exfalso
   rw [hp] at hx
   cases hx
   injection hc with hc
   subst hc
   have hL:cl.length=len:=by rw [←he,List.length_take,List.length_drop];omega
   obtain ⟨d,L',rfl⟩:∃d L',cl=d::L':=by
    cases cl with
    |nil=>exact absurd hL.symm h0
    |cons d L'=>exact ⟨d,L',rfl⟩
   have hm:d∈cs:=by
    have:d∈(cs.drop off).take (len*1):=by rw [he];exact List.mem_cons_self
    exact List.mem_of_mem_drop (List.mem_of_mem_take this)
   have:=List.all_eq_true.1 hu _ hm
   rw [hcl d List.mem_cons_self] at this
   cases this
  rw [hx] at hp
  cases hp
  rw [hc] at hn
  cases hn
theorem WW.t {h:HF}{n:Nat}{a:Option Addr}{l c m:Nat}(i:WW h n a l c m)(t:Tr n h n' h'):WW h' n' a l c m:=by
 obtain ⟨L,h1,h2,h3⟩:=i
 exact ⟨L,h1.trG (fun x hx=>by obtain ⟨d,_,rfl⟩:=List.mem_map.1 hx;rfl) t,h2,h3⟩
theorem IW.t {h:HF}{n:Nat}{b:Bool}{a:Option Addr}{l c:Nat}{x:Int}(i:IW h n b a l c x)(t:Tr n h n' h'):IW h' n' b a l c x:=⟨i.1,i.2.t t⟩
theorem GG.t {h:HF}{n:Nat}(g:GG h n)(t:Tr n h n' h'):GG h' n':=by
 obtain ⟨⟨g1,g2,g3⟩,g4⟩:=g
 have f:∀c x,h c=some x→(∀cs e,x=.row cs e→cs.all nu=false)→c<60→(∀y,x=y→y.cells≠none)→h' c=some x:=by
  intro c x hp hu hc hz
  rcases t.2 c zo with e1|⟨y,hq,⟨cs2,e2,rfl,hv⟩|hn⟩
  ·rw [e1,hp]
  ·rw [hp] at hq
   injection hq with hq
   rw [hu _ _ hq] at hv
   cases hv
  rw [hp] at hq
  injection hq with hq
  subst hq
  exact absurd hn (hz _ rfl)
 refine ⟨⟨f _ _ g1 ?_ ?_ ?_,f _ _ g2 ?_ ?_ ?_,f _ _ g3 ?_ ?_ ?_⟩,Nat.le_trans g4 t.1⟩<;>first|decide|(intro cs e q;cases q<;>rfl)|(intro y q;subst q;intro hn;cases hn)
theorem GG.x {h:HF}{n:Nat}(g:GG h n)(t:Tx n h n' h'):GG h' n':=g.ext t.2 t.1
theorem IW.x {h:HF}{n:Nat}{b:Bool}{a:Option Addr}{l c:Nat}{x:Int}(i:IW h n b a l c x)(t:Tx n h n' h'):IW h' n' b a l c x:=i.ext t.2 t.1
theorem WW.x {h:HF}{n:Nat}{a:Option Addr}{l c m:Nat}(i:WW h n a l c m)(t:Tx n h n' h'):WW h' n' a l c m:=i.ext t.2 t.1
theorem Sl.x {h:HF}{n:Nat}(s:Sl h n sz v c)(t:Tx n h n' h'):Sl h' n' sz v c:=s.ext t.2 t.1
theorem zt {n:Nat}{h:HF}(t:Tr n h n' h':=by (repeat (first|exact Tr.refl _ _|(apply Tr.e;assumption;(first|assumption|exact Nat.le_refl _|exact Nat.le_succ _|omega))|(apply Tr.s;assumption)|(apply Tr.l;assumption)))):Tr n h n' h':=t
theorem zx {n:Nat}{h:HF}(t:Tx n h n' h':=by (repeat (first|exact Tx.refl _ _|(apply Tx.e;assumption;(first|assumption|exact Nat.le_refl _|exact Nat.le_succ _|omega))|(apply Tx.a;assumption;omega;omega)|(apply Tx.s;assumption;omega)|(apply Tx.o;assumption;omega)|(apply Tx.lp;assumption;omega)|(apply Tx.l;assumption;(first|assumption|exact Nat.le_refl _|exact Nat.le_succ _|omega);(intro b hb;simp only [List.mem_cons,List.not_mem_nil,or_false] at hb<;>omega))))):Tx n h n' h':=t
theorem zy {n:Nat}{B:List Nat}{h:HF}(t:Ty n B h n' h':=by (repeat (first|exact Ty.refl _ _ _|(apply Ty.e;assumption;(first|assumption|exact Nat.le_refl _|exact Nat.le_succ _|omega))|(apply Ty.a;assumption;omega;omega)|(apply Ty.s;assumption;(first|(left;omega)|(right;simp)))|(apply Ty.o;assumption;(first|(left;omega)|(right;simp)))|(apply Ty.lp;assumption;(first|(left;omega)|(right;simp)))|(apply Ty.l;assumption;(first|assumption|exact Nat.le_refl _|exact Nat.le_succ _|omega);(intro b hb;simp only [List.mem_cons,List.not_mem_nil,or_false] at hb ⊢ <;>omega))))):ExtB n B h h':=t.2
theorem zp {b:Nat}{h:HF}{x:Option BF}(t:h b=x:=by (repeat (first|assumption|(apply Ext.zz;assumption;omega)|(apply Sto.zz;assumption;omega)|(apply Only.zz;assumption;omega)|(apply Lpo.zz;assumption;omega)|(apply Exa.zz;assumption;omega)|(apply ExtB.zz;assumption;omega;(simp only [List.mem_cons,List.not_mem_nil,or_false,not_false_eq_true]<;>omega))))):h b=x:=t
theorem ldG {h:HF}{b:Nat}{e:TypeId}{r:List Value}(L:List Value)(ha:GL.isAgg E ty=some true)(hi:E.inf ty=some (sz,bt,z))(hb:h b=some (.row c e))(hc:c.drop off=L++r)(hl:L.length=sz)(h1:0<L.length:=by exact Nat.succ_pos _):yd E ty h ⟨b,off,none⟩=some (.agg L.toArray):=by
 have h2:=congrArg List.length hc
 rw [List.length_drop,List.length_append] at h2
 refine yo (cs:=L) ⟨ha,hi⟩ hb rfl zo ?_
 rw [hc,←hl,List.take_left]
theorem ld1 {h:HF}{b:Nat}{e:TypeId}{r:List Value}(ha:GL.isAgg E ty=some true)(hi:E.inf ty=some (1,bt,z))(hb:h b=some (.row c e))(hc:c.drop off=x1::r):yd E ty h ⟨b,off,none⟩=some (.agg #[x1]):=ldG [x1] ha hi hb hc rfl
theorem ld2 {h:HF}{b:Nat}{e:TypeId}{r:List Value}(ha:GL.isAgg E ty=some true)(hi:E.inf ty=some (2,bt,z))(hb:h b=some (.row c e))(hc:c.drop off=x1::x2::r):yd E ty h ⟨b,off,none⟩=some (.agg #[x1,x2]):=ldG [x1,x2] ha hi hb hc rfl
theorem ld3 {h:HF}{b:Nat}{e:TypeId}{r:List Value}(ha:GL.isAgg E ty=some true)(hi:E.inf ty=some (3,bt,z))(hb:h b=some (.row c e))(hc:c.drop off=x1::x2::x3::r):yd E ty h ⟨b,off,none⟩=some (.agg #[x1,x2,x3]):=ldG [x1,x2,x3] ha hi hb hc rfl
theorem ld4 {h:HF}{b:Nat}{e:TypeId}{r:List Value}(ha:GL.isAgg E ty=some true)(hi:E.inf ty=some (4,bt,z))(hb:h b=some (.row c e))(hc:c.drop off=x1::x2::x3::x4::r):yd E ty h ⟨b,off,none⟩=some (.agg #[x1,x2,x3,x4]):=ldG [x1,x2,x3,x4] ha hi hb hc rfl
theorem ld5 {h:HF}{b:Nat}{e:TypeId}{r:List Value}(ha:GL.isAgg E ty=some true)(hi:E.inf ty=some (5,bt,z))(hb:h b=some (.row c e))(hc:c.drop off=x1::x2::x3::x4::x5::r):yd E ty h ⟨b,off,none⟩=some (.agg #[x1,x2,x3,x4,x5]):=ldG [x1,x2,x3,x4,x5] ha hi hb hc rfl
theorem ld6 {h:HF}{b:Nat}{e:TypeId}{r:List Value}(ha:GL.isAgg E ty=some true)(hi:E.inf ty=some (6,bt,z))(hb:h b=some (.row c e))(hc:c.drop off=x1::x2::x3::x4::x5::x6::r):yd E ty h ⟨b,off,none⟩=some (.agg #[x1,x2,x3,x4,x5,x6]):=ldG [x1,x2,x3,x4,x5,x6] ha hi hb hc rfl
theorem ld10 {h:HF}{b:Nat}{e:TypeId}{r:List Value}(ha:GL.isAgg E ty=some true)(hi:E.inf ty=some (10,bt,z))(hb:h b=some (.row c e))(hc:c.drop off=x1::x2::x3::x4::x5::x6::x7::x8::x9::x10::r):yd E ty h ⟨b,off,none⟩=some (.agg #[x1,x2,x3,x4,x5,x6,x7,x8,x9,x10]):=ldG [x1,x2,x3,x4,x5,x6,x7,x8,x9,x10] ha hi hb hc rfl
theorem ld11 {h:HF}{b:Nat}{e:TypeId}{x11:Value}{r:List Value}(ha:GL.isAgg E ty=some true)(hi:E.inf ty=some (11,bt,z))(hb:h b=some (.row c e))(hc:c.drop off=x1::x2::x3::x4::x5::x6::x7::x8::x9::x10::x11::r):yd E ty h ⟨b,off,none⟩=some (.agg #[x1,x2,x3,x4,x5,x6,x7,x8,x9,x10,x11]):=ldG [x1,x2,x3,x4,x5,x6,x7,x8,x9,x10,x11] ha hi hb hc rfl
structure Hd (q:Prop):Prop where
 go:q
def ezO:Op→Bool
 | .move _=>true
 | .assign _=>true
 | .pick _ _ _=>true
 | .nilCheck _=>true
 | .unOp _ _ _=>true
 | .fieldAddr _ _ _=>true
 | .extract _ _=>true
 |_=>false
def bnO:Op→Bool
 | .binOp _ _ _ _ _=>true
 |_=>false
def litB:Value→Bool
 | .bool b=>b|| !b
 |_=>false
def lnO:Op→Option Operand
 | .call c=>(match c.callee,c.args.toList with| .builtin .len,[x]=>some x|_,_=>none)
 |_=>none
section
variable {X:CtxF}{ops r:List Oper}{t:TF}{h:HF}{n:Nat}{w:List Nat}{Q:SV→Prop}{o:Oper}{d:Tmp}
theorem zgE (_:ezO o.op=true)(k:EO X ops (o::r) ⟨t,h,n,w⟩ Q):EO X ops (o::r) ⟨t,h,n,w⟩ Q:=k
theorem zgB (_:bnO o.op=true)(k:EO X ops (o::r) ⟨t,h,n,w⟩ Q):EO X ops (o::r) ⟨t,h,n,w⟩ Q:=k
theorem zgL {x:Operand}{b:Nat}{y:BF}(_:o.op=.load ty x)(_:evF t x=.pointer (some ⟨b,off,none⟩))(hb:h b=some y)(k:h b=some y→EO X ops (o::r) ⟨t,h,n,w⟩ Q):EO X ops (o::r) ⟨t,h,n,w⟩ Q:=k hb
theorem zgQ {x:Operand}{q:BinOp}(_:o.op=.binOp q ty x y ty')(_:litB (evF t x)=true)(_:litB (evF t y)=true)(k:EO X ops (o::r) ⟨t,h,n,w⟩ Q):EO X ops (o::r) ⟨t,h,n,w⟩ Q:=k
theorem zgN {x:Operand}{a:Option Addr}{l c:Nat}(_:lnO o.op=some x)(_:evF t x=.slice a l c)(k:EO X ops (o::r) ⟨t,h,n,w⟩ Q):EO X ops (o::r) ⟨t,h,n,w⟩ Q:=k
end
section
variable {X:CtxF}{ops r:List Oper}{ms:List Nat}{i m:Nat}{t:TF}{h:HF}{n:Nat}{w:List Nat}{al ld:List (Nat×Nat)}{ef:List (Nat×HF×List Nat)}{Q:SV→Prop}{o:Oper}{d:Tmp}
theorem zhE (_:ezO o.op=true)(k:ED X ops (o::r) (m::ms) i ⟨⟨t,h,n,w⟩,al,ld,ef⟩ Q):ED X ops (o::r) (m::ms) i ⟨⟨t,h,n,w⟩,al,ld,ef⟩ Q:=k
theorem zhB (_:bnO o.op=true)(k:ED X ops (o::r) (m::ms) i ⟨⟨t,h,n,w⟩,al,ld,ef⟩ Q):ED X ops (o::r) (m::ms) i ⟨⟨t,h,n,w⟩,al,ld,ef⟩ Q:=k
theorem zhL {x:Operand}{b:Nat}{y:BF}{g:HF}(_:o.op=.load ty x)(_:evF t x=.pointer (some ⟨b,off,none⟩))(_:xK m ef i h=(u,g))(hb:g b=some y)(k:g b=some y→ED X ops (o::r) (m::ms) i ⟨⟨t,h,n,w⟩,al,ld,ef⟩ Q):ED X ops (o::r) (m::ms) i ⟨⟨t,h,n,w⟩,al,ld,ef⟩ Q:=k hb
theorem zhQ {x:Operand}{q:BinOp}(_:o.op=.binOp q ty x y ty')(_:litB (evF t x)=true)(_:litB (evF t y)=true)(k:ED X ops (o::r) (m::ms) i ⟨⟨t,h,n,w⟩,al,ld,ef⟩ Q):ED X ops (o::r) (m::ms) i ⟨⟨t,h,n,w⟩,al,ld,ef⟩ Q:=k
theorem zhN {x:Operand}{a:Option Addr}{l c:Nat}(_:lnO o.op=some x)(_:evF t x=.slice a l c)(k:ED X ops (o::r) (m::ms) i ⟨⟨t,h,n,w⟩,al,ld,ef⟩ Q):ED X ops (o::r) (m::ms) i ⟨⟨t,h,n,w⟩,al,ld,ef⟩ Q:=k
end
theorem zG {q:Prop}(k:q)(e:Hd q→p:=by intro k;(repeat (first|refine jJ R3 ?_|(refine zgE rfl ?_;first|refine st_I R5 ?_|refine st_B R5 ?_|refine st_S R5 ?_|refine st_P R5 ?_|refine st_A R5 ?_|refine st_T R4 rfl ?_|refine st_U R5 ?_|refine zI (v:=.pointer none) R4 rfl ?_)|(refine zgL rfl rfl (by (repeat (first|assumption|(apply Ext.zz;assumption;omega)|(apply Sto.zz;assumption;omega)|(apply Only.zz;assumption;omega)|(apply Lpo.zz;assumption;omega)|(apply Exa.zz;assumption;omega)|(apply ExtB.zz;assumption;omega;(simp only [List.mem_cons,List.not_mem_nil,or_false,not_false_eq_true]<;>omega))))) (fun hblk=>?_);first|refine zV R5 (zU rfl hblk R2) ?_|refine zV R5 (ld1 rfl rfl hblk rfl) ?_|refine zV R5 (ld2 rfl rfl hblk rfl) ?_|refine zV R5 (ld3 rfl rfl hblk rfl) ?_|refine zV R5 (ld4 rfl rfl hblk rfl) ?_|refine zV R5 (ld5 rfl rfl hblk rfl) ?_|refine zV R5 (ld6 rfl rfl hblk rfl) ?_|refine zV R5 (ld10 rfl rfl hblk rfl) ?_|refine zV R5 (ld11 rfl rfl hblk rfl) ?_)|(refine zgN rfl rfl ?_;refine st_I R5 ?_)|(refine zgQ rfl rfl rfl ?_;refine st_B R5 ?_)|(refine zgB rfl ?_;first|refine nD R6 zo ?_|refine dK R6 zo ?_|refine qg R6 zo ?_|refine pr R6 zo ?_|refine jL R6 zo ?_|refine jM R6 zo ?_|refine nE R6 zo ?_|refine jN R6 zo ?_|refine dM R6 zo ?_|refine dO R6 zo ?_|refine lP R6 zo ?_|refine lQ R6 zo ?_|refine vP R6 zo ?_|refine rb R6 zo ?_)|simp only [NV,Nat.reduceEqDiff,reduceCtorEq]|refine (ze rfl).mpr ?_|refine (za rfl).mpr ?_));exact k.go):p:=e ⟨k⟩
theorem zH {q:Prop}(k:q)(e:Hd q→p:=by intro k;(repeat (first|refine bY rfl rfl rfl ?_|(refine zhE rfl ?_;first|refine dr_I R5 ?_|refine dr_B R5 ?_|refine dr_S R5 ?_|refine dr_P R5 ?_|refine dr_A R5 ?_|refine dr_T R5 ?_|refine dr_U R5 ?_)|(refine zhL rfl rfl rfl (by (repeat (first|assumption|(apply Ext.zz;assumption;omega)|(apply Sto.zz;assumption;omega)|(apply Only.zz;assumption;omega)|(apply Lpo.zz;assumption;omega)|(apply Exa.zz;assumption;omega)|(apply ExtB.zz;assumption;omega;(simp only [List.mem_cons,List.not_mem_nil,or_false,not_false_eq_true]<;>omega))))) (fun hblk=>?_);first|refine z9 R6 (zU rfl hblk R2) R2 ?_|refine z9 R6 (ld1 rfl rfl hblk rfl) R2 ?_|refine z9 R6 (ld2 rfl rfl hblk rfl) R2 ?_|refine z9 R6 (ld3 rfl rfl hblk rfl) R2 ?_|refine z9 R6 (ld4 rfl rfl hblk rfl) R2 ?_|refine z9 R6 (ld5 rfl rfl hblk rfl) R2 ?_|refine z9 R6 (ld6 rfl rfl hblk rfl) R2 ?_|refine z9 R6 (ld10 rfl rfl hblk rfl) R2 ?_|refine z9 R6 (ld11 rfl rfl hblk rfl) R2 ?_)|(refine zhN rfl rfl ?_;refine dr_I R5 ?_)|(refine zhQ rfl rfl rfl ?_;refine dr_B R5 ?_)|(refine zhB rfl ?_;first|refine zd8 R6 zo ?_|refine zd9 R6 zo ?_|refine zea R6 zo ?_|refine zeb R6 zo ?_|refine zec R6 zo ?_|refine zed R6 zo ?_|refine zee R6 zo ?_|refine zef R6 zo ?_|refine zeg R6 zo ?_|refine zeh R6 zo ?_|refine aa R6 zo ?_|refine ab R6 zo ?_|refine ag R6 zo ?_|refine bV R6 zo ?_)|simp only [NV,Nat.reduceEqDiff,reduceCtorEq]|refine (ze rfl).mpr ?_|refine (za rfl).mpr ?_));exact k.go):p:=e ⟨k⟩
theorem zJ {q:Prop}(k:q)(e:Hd q→p:=by intro k;refine zH ?_;refine zG ?_;exact k.go):p:=e ⟨k⟩
section
variable {X:CtxF}{nt kk n0:Nat}{ops r:List Oper}{t:TF}{h:HF}{n:Nat}{w:List Nat}{Q:SV→Prop}{o:Oper}{d:Tmp}
theorem zi1 {m b i c:Nat}{r:List (Nat×Nat)}(h:c≠b)(k:z0 m [b] r=true):z0 m [b] ((i,c)::r)=true:=by
 have hm:memN c [b]=false:=by
  unfold memN
  cases he:Nat.beq c b with
  |false=>rfl
  |true=>exact absurd (Nat.eq_of_beq_eq_true he) h
 unfold z0
 rw [hm,Bool.not_false,Bool.or_true]
 exact k
theorem vc_A (h:v=.agg ⟨cs⟩):zl v=cs:=by
 subst h
 rfl
theorem sA {e:TypeId}(k:∀h',h' (3*n+2)=some (.row cs e)→Ext n h h'→EO X ops r ⟨upd t d (.pointer (some ⟨3*n+2,0,none⟩)),h',n+1,w⟩ Q)(hw:zh ops t o=true:=by exact rfl)(hd:o.dst=some d:=by exact rfl)(hn:zn X.nt (some d)=true:=by exact rfl)(ho:o.op=.alloc e:=by exact rfl)(hi:X.E.inf e=some (sz,bt,z):=by exact rfl)(hz:zl z=cs:=by first|exact vc_A rfl|exact rfl):EO X ops (o::r) ⟨t,h,n,w⟩ Q:=wI cs ⟨hw,hd,hn,ho,hi,hz⟩ k
theorem sB {e:TypeId}(cs:List Value)(k:∀h',h' (3*n+2)=some (.row cs e)→Ext n h h'→EO X ops r ⟨upd t d (.pointer (some ⟨3*n+2,0,none⟩)),h',n+1,w⟩ Q)(hw:zh ops t o=true:=by exact rfl)(hd:o.dst=some d:=by exact rfl)(hn:zn X.nt (some d)=true:=by exact rfl)(hc:cls o.op=2:=by exact rfl)(hm:mkE X.E o.op (evF t)=some ⟨cs,e,false,none⟩:=by exact rfl):EO X ops (o::r) ⟨t,h,n,w⟩ Q:=nl cs ⟨hw,hd,hn,hc,hm⟩ k
theorem sC {P:Value→HF→Nat→Prop}(hcall:CX X.C f args h n P)(k:∀v h' n',P v h' n'→n≤n'→Ext n h h'→EO X ops r ⟨upd t d v,h',n',w⟩ Q)(hw:zh ops t o=true:=by exact rfl)(hd:o.dst=some d:=by exact rfl)(hn:zn X.nt (some d)=true:=by exact rfl)(hc:cls o.op=3:=by exact rfl)(he:effF X.E o.op (evF t) h n=some (.enter f args):=by exact rfl):EO X ops (o::r) ⟨t,h,n,w⟩ Q:=dc hw hd hn hc he hcall k
theorem sT (cs:Array Value)(k:EO X ops r ⟨upd t d (.agg cs),h,n,w⟩ Q)(hw:zh ops t o=true:=by exact rfl)(hd:o.dst=some d:=by exact rfl)(hn:zn X.nt (some d)=true:=by exact rfl)(hc:cls o.op=0:=by exact rfl)(hv:yg X.E o.op (evF t)=some (.agg cs):=by exact rfl):EO X ops (o::r) ⟨t,h,n,w⟩ Q:=st_A ⟨hw,hd,hn,hc,hv⟩ k
theorem sS {a x:Operand}{b:Nat}{e:TypeId}(c':List Value)(k:∀h',h' b=some (.row c' e)→Sto b h h'→EO (ctx kk n0 nt) ops r ⟨t,h',n,w⟩ Q)(hw:zh ops t o=true:=by exact rfl)(hd:o.dst=none:=by exact rfl)(ho:o.op=.store ty a x:=by exact rfl)(hi:env.inf ty=some (sz,bt,z):=by exact rfl)(ha:evF t a=.pointer (some ⟨b,off,none⟩):=by exact rfl)(hb:h b=some (.row c e):=by exact zp)(hu:c.all nu=true:=by exact rfl)(hx:zl (evF t x)=cs:=by exact rfl)(hs:cs.length=sz:=by exact rfl)(h1:ones cs=true:=by exact rfl)(hl:off+sz≤c.length:=by exact zb)(hsp:zm c off cs=c':=by exact rfl)(hnew:3*n0≤b:=by omega):EO (ctx kk n0 nt) ops (o::r) ⟨t,h,n,w⟩ Q:=db c' ⟨hw,hd,ho,hi,ha⟩ hb hx hs h1 hl hsp hnew fun h' p q=>k h' p ⟨q,_,_,hb,hu⟩
end
section
variable {X:CtxF}{nt kk n0:Nat}{ops r:List Oper}{ms:List Nat}{i m:Nat}{t:TF}{h:HF}{n:Nat}{w:List Nat}{al ld:List (Nat×Nat)}{ef:List (Nat×HF×List Nat)}{Q:SV→Prop}{o:Oper}{d:Tmp}
theorem dB {e:TypeId}(cs:List Value)(k:∀h',h' (3*n+2)=some (.row cs e)→Ext n h h'→ED X ops r ms (i+1) ⟨⟨upd t d (.pointer (some ⟨3*n+2,0,none⟩)),h',n+1,w⟩,(i,3*n+2)::al,ld,ef⟩ Q)(hw:zh ops t o=true:=by exact rfl)(hd:o.dst=some d:=by exact rfl)(hn:zn X.nt (some d)=true:=by exact rfl)(hc:cls o.op=2:=by exact rfl)(hm:mkE X.E o.op (evF t)=some ⟨cs,e,false,none⟩:=by exact rfl):ED X ops (o::r) (m::ms) i ⟨⟨t,h,n,w⟩,al,ld,ef⟩ Q:=zgx cs hw hd hn hc hm k
theorem dC {P:Value→HF→Nat→Prop}(hcall:CX X.C f args h n P)(k:∀v h' n',P v h' n'→n≤n'→Ext n h h'→ED X ops r ms (i+1) ⟨⟨upd t d v,h',n',w⟩,al,ld,(i,h,[])::ef⟩ Q)(hw:zh ops t o=true:=by exact rfl)(hd:o.dst=some d:=by exact rfl)(hn:zn X.nt (some d)=true:=by exact rfl)(hc:cls o.op=3:=by exact rfl)(he:effF X.E o.op (evF t) h n=some (.enter f args):=by exact rfl)(h1:xc m ef=true:=by exact rfl)(h2:xA m al=true:=by exact rfl):ED X ops (o::r) (m::ms) i ⟨⟨t,h,n,w⟩,al,ld,ef⟩ Q:=zeq hw hd hn hc he hcall h1 h2 k
theorem dT (cs:Array Value)(k:ED X ops r ms (i+1) ⟨⟨upd t d (.agg cs),h,n,w⟩,al,ld,ef⟩ Q)(hw:zh ops t o=true:=by exact rfl)(hd:o.dst=some d:=by exact rfl)(hn:zn X.nt (some d)=true:=by exact rfl)(hc:(cls o.op==0||cls o.op==4)=true:=by exact rfl)(hv:yg X.E o.op (evF t)=some (.agg cs):=by exact rfl):ED X ops (o::r) (m::ms) i ⟨⟨t,h,n,w⟩,al,ld,ef⟩ Q:=dr_A ⟨hw,hd,hn,hc,hv⟩ k
theorem dS {a x:Operand}{b:Nat}{e:TypeId}(c':List Value)(k:∀h',h' b=some (.row c' e)→Sto b h h'→ED (ctx kk n0 nt) ops r ms (i+1) ⟨⟨t,h',n,w⟩,al,ld,(i,h,[b])::ef⟩ Q)(hw:zh ops t o=true:=by exact rfl)(hd:o.dst=none:=by exact rfl)(ho:o.op=.store ty a x:=by exact rfl)(hi:env.inf ty=some (sz,bt,z):=by exact rfl)(ha:evF t a=.pointer (some ⟨b,off,none⟩):=by exact rfl)(hb:h b=some (.row c e):=by exact zp)(hu:c.all nu=true:=by exact rfl)(hx:zl (evF t x)=cs:=by exact rfl)(hs:cs.length=sz:=by exact rfl)(h1:ones cs=true:=by exact rfl)(hl:off+sz≤c.length:=by exact zb)(hsp:zm c off cs=c':=by exact rfl)(hnew:3*n0≤b:=by omega)(g1:xc m ef=true:=by exact rfl)(g2:xA m al=true:=by exact rfl)(g3:z0 m [b] ld=true:=by first|exact rfl|(repeat (first|exact rfl|(apply zi1;omega)))):ED (ctx kk n0 nt) ops (o::r) (m::ms) i ⟨⟨t,h,n,w⟩,al,ld,ef⟩ Q:=zgw c' hw hd ho hi ha hb hx hs h1 hl hsp hnew g1 g2 g3 fun h' p q=>k h' p ⟨q,_,_,hb,hu⟩
end
theorem zdo {s:SV}{a:Tmp}{b:Nat}{y:BF}{r:List ResultVar}(_:s.t a=.pointer (some ⟨b,off,none⟩))(hb:s.h b=some y)(k:s.h b=some y→resF env s (.cell a ty::r)=some vs):resF env s (.cell a ty::r)=some vs:=k hb
theorem zq {P:Value→HF→Nat→Prop}{e:Ex}{t:TF}{h:HF}{n0 n:Nat}(hp:P (sm vs) h n)(go:Hd (RetH fn (Gw n0 h0 P) e ⟨t,h,n,[]⟩)→p:=by intro k;refine zH ?_;refine zG ?_;exact k.go)(he:su e=true:=by exact rfl)(hr:resF env ⟨t,h,n,[]⟩ fn.results.toList=some vs:=by (repeat (first|exact rd|(apply yF (v:=.bool _);exact rfl)|(apply yF (v:=.int _ _);exact rfl)|(apply yF (v:=.slice _ _ _);exact rfl)|(apply yF (v:=.agg #[_,_]);exact rfl)|(apply yF (v:=.agg #[_,_,_,_]);exact rfl)|(apply yF (v:=.string _);exact rfl)|(apply yF;exact rfl)|(apply zdo;exact rfl;(focus ((repeat (first|assumption|(apply Ext.zz;assumption;omega)|(apply Sto.zz;assumption;omega)|(apply Only.zz;assumption;omega)|(apply Lpo.zz;assumption;omega)|(apply Exa.zz;assumption;omega)|(apply ExtB.zz;assumption;omega;(simp only [List.mem_cons,List.not_mem_nil,or_false,not_false_eq_true]<;>omega))));done));intro hblk;first|(apply xG;exact rfl;exact zU rfl hblk R2)|(apply xG;exact rfl;exact ld1 rfl rfl hblk rfl)|(apply xG;exact rfl;exact ld2 rfl rfl hblk rfl)|(apply xG;exact rfl;exact ld3 rfl rfl hblk rfl)|(apply xG;exact rfl;exact ld4 rfl rfl hblk rfl)|(apply xG;exact rfl;exact ld5 rfl rfl hblk rfl)|(apply xG;exact rfl;exact ld6 rfl rfl hblk rfl)|(apply xG;exact rfl;exact ld10 rfl rfl hblk rfl)|(apply xG;exact rfl;exact ld11 rfl rfl hblk rfl)))))(hf:ue vs=false:=by exact rfl)(hx:Tx n0 h0 n h:=by exact zx):p:=go ⟨retX vs he hr hf hx.1 hx.2 hp⟩
theorem zf {P:Value→Prop}{e:Ex}{s:SV}(hp:P (sm vs))(go:Hd (RetF fn P e s)→p:=by intro k;refine zH ?_;refine zG ?_;exact k.go)(he:su e=true:=by exact rfl)(hr:resF env s fn.results.toList=some vs:=by (repeat (first|exact rd|(apply yF (v:=.bool _);exact rfl)|(apply yF (v:=.int _ _);exact rfl)|(apply yF (v:=.slice _ _ _);exact rfl)|(apply yF (v:=.agg #[_,_]);exact rfl)|(apply yF (v:=.agg #[_,_,_,_]);exact rfl)|(apply yF (v:=.string _);exact rfl)|(apply yF;exact rfl)|(apply zdo;exact rfl;(focus ((repeat (first|assumption|(apply Ext.zz;assumption;omega)|(apply Sto.zz;assumption;omega)|(apply Only.zz;assumption;omega)|(apply Lpo.zz;assumption;omega)|(apply Exa.zz;assumption;omega)|(apply ExtB.zz;assumption;omega;(simp only [List.mem_cons,List.not_mem_nil,or_false,not_false_eq_true]<;>omega))));done));intro hblk;first|(apply xG;exact rfl;exact zU rfl hblk R2)|(apply xG;exact rfl;exact ld1 rfl rfl hblk rfl)|(apply xG;exact rfl;exact ld2 rfl rfl hblk rfl)|(apply xG;exact rfl;exact ld3 rfl rfl hblk rfl)|(apply xG;exact rfl;exact ld4 rfl rfl hblk rfl)|(apply xG;exact rfl;exact ld5 rfl rfl hblk rfl)|(apply xG;exact rfl;exact ld6 rfl rfl hblk rfl)|(apply xG;exact rfl;exact ld10 rfl rfl hblk rfl)|(apply xG;exact rfl;exact ld11 rfl rfl hblk rfl)))))(hf:ue vs=true:=by exact rfl)(hw:s.w=[]:=by exact rfl):p:=go ⟨retF vs he hr ⟨hf,hw⟩ hp⟩
theorem sF {X:CtxF}{c:Code}{t:TF}{h:HF}{n:Nat}{w:List Nat}{Q:Ex→SV→Prop}(live:α→List (Nat×Value))(I:α→HF→Nat→List Nat→Prop)(μ:α→Nat)(a:α)(hI:I a h n w)(round:∀a t h n w,I a h n w→EC X c ⟨mV t (live a),h,n,w⟩ (rj live I μ a Q))(hl:uF t (live a):=by repeat (first|exact trivial|refine ⟨rfl,?_⟩))(hm:μ a<X.L:=by show _<LL;unfold LL;(try dsimp only);omega):EC X (.loop c) ⟨t,h,n,w⟩ Q:=z8 live I μ a hl hI hm round
theorem sK {live:α→List (Nat×Value)}{I:α→HF→Nat→List Nat→Prop}{μ:α→Nat}{a:α}{Q:Ex→SV→Prop}{t:TF}{h:HF}{n:Nat}{w:List Nat}(a':α)(h3:I a' h n w)(h1:μ a'<μ a:=by (try dsimp only);omega)(h2:uF t (live a'):=by repeat (first|exact trivial|refine ⟨rfl,?_⟩)):rj live I μ a Q .normal ⟨t,h,n,w⟩:=goOn a' h1 h2 h3
end
section
variable {h:HF}{cx cy lx ly n:Nat}{sx sy:Bool}{ax ay:Option Addr}
theorem iJ (k:Nat){x:Int}(ix:IW h n sx ax lx cx x):VF (cal (k+1)) 38 [.agg #[.bool sx,.slice ax lx cx]] h n fun v=>∃b:Bool,v=.bool b∧(b=true↔x=0):=by
 refine zB (fn:=Tryz.f38) R4 ?_
 refine zG ?_
 refine sB [.bool sx,.slice ax lx cx] ?_
 intro h11 p11 x11
 refine zG ?_
 by_cases q12:(lx:Int)=0
 ·refine zf ?_
  exact ⟨_,rfl,by have:=ix.2.zero;simp only [reduceCtorEq,true_iff,false_iff];omega⟩
 refine zf ?_
 exact ⟨_,rfl,by have:=ix.2.zero;simp only [reduceCtorEq,true_iff,false_iff];omega⟩
theorem yJ (k:Nat){bx:Bool}{x:Int}(ix:IW h n bx ax lx cx x):CX (cal (k+1)) 38 [.agg #[.bool bx,.slice ax lx cx]] h n (BV (x=0)):=(iJ k ix).cx
theorem zg7 (k:Nat){x:Int}(ix:IW h n sx ax lx cx x):VF (cal (k+1)) 60 [.agg #[.bool sx,.slice ax lx cx]] h n fun v=>∃s:Int,v=.int .i64 s∧(s= -1∧x<0∨s=0∧x=0∨s=1∧0<x):=by
 refine zB (fn:=Tryz.f60) R4 ?_
 refine zG ?_
 refine sB [.bool sx,.slice ax lx cx] ?_
 intro h11 p11 x11
 refine zG ?_
 by_cases q12:(lx:Int)=0
 ·refine zf ?_
  exact ⟨_,rfl,by have:=ix.2.zero;omega⟩
 refine zG ?_
 cases sx
 ·refine zf ?_
  exact ⟨_,rfl,by have:=ix.ge;have:=ix.2.zero;omega⟩
 refine zf ?_
 exact ⟨_,rfl,by have:=ix.lt;have:=ix.2.zero;omega⟩
theorem za8 (k:Nat){bx:Bool}{x:Int}(ix:IW h n bx ax lx cx x):CX (cal (k+1)) 60 [.agg #[.bool bx,.slice ax lx cx]] h n (SV3 x):=(zg7 k ix).cx
theorem uK (k:Nat){bx:Bool}{x:Int}(ix:IW h n bx ax lx cx x):CX (cal (k+1)) 43 [.agg #[.bool bx,.slice ax lx cx]] h n (BV (x=1)):=by
 obtain ⟨e,L,hs,hN,hv⟩:=ix
 refine (iK k hs hN).cx.mono ?_
 rintro _ _ _ rfl
 refine ⟨_,rfl,?_⟩
 rw [hv,e,Bool.and_eq_true,Bool.not_eq_true',decide_eq_false_iff_not,decide_eq_true_iff]
 omega
theorem negX (k:Nat){x:Int}(ix:IW h n sx ax lx cx x):CX (cal (k+2)) 76 [.agg #[.bool sx,.slice ax lx cx]] h n (IV (-x)):=by
 refine zv (fn:=Tryz.f76) R4 ?_
 refine zG ?_
 refine sB [.bool sx,.slice ax lx cx] ?_
 intro h11 p11 x11
 refine sA ?_
 intro h12 p12 x12
 refine zG ?_
 cases sx
 ·refine zG ?_
  refine sC (yr _ (ix.t zt).2 true) ?_
  rintro _ h13 n13 ⟨b13,a13,l13,c13,rfl,i13⟩ y13 x13
  refine sS [.bool b13,.slice a13 l13 c13] ?_
  intro h14 p14 o14
  refine zq ?_
  exact ⟨_,_,_,_,rfl,(i13.t zt).as (by have:=ix.ge;unfold sgZ;(try simp only [Bool.not_true,Bool.not_false,if_true,if_false,Bool.false_eq_true]);omega)⟩
 refine zG ?_
 refine sC (yr _ (ix.t zt).2 false) ?_
 rintro _ h15 n15 ⟨b15,a15,l15,c15,rfl,i15⟩ y15 x15
 refine sS [.bool b15,.slice a15 l15 c15] ?_
 intro h16 p16 o16
 refine zq ?_
 exact ⟨_,_,_,_,rfl,(i15.t zt).as (by have:=ix.lt;unfold sgZ;(try simp only [Bool.not_true,Bool.not_false,if_true,if_false,Bool.false_eq_true]);omega)⟩
theorem addX (k:Nat){x:Int}{y:Int}(ix:IW h n sx ax lx cx x)(iy:IW h n sy ay ly cy y)(hx:x.natAbs<BW)(hy:y.natAbs<BW):CX (cal (k+4)) 39 [.agg #[.bool sx,.slice ax lx cx],.agg #[.bool sy,.slice ay ly cy]] h n (IV (x+y)):=by
 refine zv (fn:=Tryz.f39) R4 ?_
 refine zG ?_
 refine sB [.bool sx,.slice ax lx cx] ?_
 intro h11 p11 x11
 refine sB [.bool sy,.slice ay ly cy] ?_
 intro h12 p12 x12
 refine sA ?_
 intro h13 p13 x13
 refine zG ?_
 cases sx
 ·refine zG ?_
  cases sy
  ·refine zG ?_
   refine zu [0,1,0,4,0,16,60,127,255] rfl ?_
   refine zH ?_
   refine dC (zii _ (ix.t zt).2 (iy.t zt).2 zhh) ?_
   rintro _ h14 n14 ⟨a14,l14,c14,rfl,i14⟩ y14 x14
   refine dC (yr _ i14 false) ?_
   rintro _ h15 n15 ⟨b15,a15,l15,c15,rfl,i15⟩ y15 x15
   refine dS [.bool b15,.slice a15 l15 c15] ?_
   intro h16 p16 o16
   refine zq ?_
   exact ⟨_,_,_,_,rfl,(i15.t zt).as (by have:=ix.ge;have:=iy.ge;unfold sgZ;(try simp only [if_true,if_false,Bool.false_eq_true]);omega)⟩
  refine zG ?_
  refine sC (ei _ (ix.t zt).2 (iy.t zt).2 zhh) ?_
  rintro _ h17 n17 ⟨s17,rfl,q17⟩ y17 x17
  rcases q17 with ⟨rfl,q17⟩|⟨rfl,q17⟩|⟨rfl,q17⟩
  ·refine zG ?_
   refine zu [0,1,0,4,0,16,60,127,255] rfl ?_
   refine zH ?_
   refine dC (fc _ (iy.t zt).2 (ix.t zt).2 zhh zo) ?_
   rintro _ h18 n18 ⟨a18,l18,c18,rfl,i18⟩ y18 x18
   refine dC (yr _ i18 true) ?_
   rintro _ h19 n19 ⟨b19,a19,l19,c19,rfl,i19⟩ y19 x19
   refine dS [.bool b19,.slice a19 l19 c19] ?_
   intro h20 p20 o20
   refine zq ?_
   exact ⟨_,_,_,_,rfl,(i19.t zt).as (by have:=ix.ge;have:=iy.lt;unfold sgZ;(try simp only [if_true,if_false,Bool.false_eq_true]);omega)⟩
  ·refine zG ?_
   refine zu [0,1,0,4,0,16,60,127,255] rfl ?_
   refine zH ?_
   refine dC (fc _ (ix.t zt).2 (iy.t zt).2 zhh zo) ?_
   rintro _ h21 n21 ⟨a21,l21,c21,rfl,i21⟩ y21 x21
   refine dC (yr _ i21 false) ?_
   rintro _ h22 n22 ⟨b22,a22,l22,c22,rfl,i22⟩ y22 x22
   refine dS [.bool b22,.slice a22 l22 c22] ?_
   intro h23 p23 o23
   refine zq ?_
   exact ⟨_,_,_,_,rfl,(i22.t zt).as (by have:=ix.ge;have:=iy.lt;unfold sgZ;(try simp only [if_true,if_false,Bool.false_eq_true]);omega)⟩
  refine zG ?_
  refine zu [0,1,0,4,0,16,60,127,255] rfl ?_
  refine zH ?_
  refine dC (fc _ (ix.t zt).2 (iy.t zt).2 zhh zo) ?_
  rintro _ h24 n24 ⟨a24,l24,c24,rfl,i24⟩ y24 x24
  refine dC (yr _ i24 false) ?_
  rintro _ h25 n25 ⟨b25,a25,l25,c25,rfl,i25⟩ y25 x25
  refine dS [.bool b25,.slice a25 l25 c25] ?_
  intro h26 p26 o26
  refine zq ?_
  exact ⟨_,_,_,_,rfl,(i25.t zt).as (by have:=ix.ge;have:=iy.lt;unfold sgZ;(try simp only [if_true,if_false,Bool.false_eq_true]);omega)⟩
 refine zG ?_
 cases sy
 ·refine zG ?_
  refine sC (ei _ (ix.t zt).2 (iy.t zt).2 zhh) ?_
  rintro _ h27 n27 ⟨s27,rfl,q27⟩ y27 x27
  rcases q27 with ⟨rfl,q27⟩|⟨rfl,q27⟩|⟨rfl,q27⟩
  ·refine zG ?_
   refine zu [0,1,0,4,0,16,60,127,255] rfl ?_
   refine zH ?_
   refine dC (fc _ (iy.t zt).2 (ix.t zt).2 zhh zo) ?_
   rintro _ h28 n28 ⟨a28,l28,c28,rfl,i28⟩ y28 x28
   refine dC (yr _ i28 false) ?_
   rintro _ h29 n29 ⟨b29,a29,l29,c29,rfl,i29⟩ y29 x29
   refine dS [.bool b29,.slice a29 l29 c29] ?_
   intro h30 p30 o30
   refine zq ?_
   exact ⟨_,_,_,_,rfl,(i29.t zt).as (by have:=ix.lt;have:=iy.ge;unfold sgZ;(try simp only [if_true,if_false,Bool.false_eq_true]);omega)⟩
  ·refine zG ?_
   refine zu [0,1,0,4,0,16,60,127,255] rfl ?_
   refine zH ?_
   refine dC (fc _ (ix.t zt).2 (iy.t zt).2 zhh zo) ?_
   rintro _ h31 n31 ⟨a31,l31,c31,rfl,i31⟩ y31 x31
   refine dC (yr _ i31 true) ?_
   rintro _ h32 n32 ⟨b32,a32,l32,c32,rfl,i32⟩ y32 x32
   refine dS [.bool b32,.slice a32 l32 c32] ?_
   intro h33 p33 o33
   refine zq ?_
   exact ⟨_,_,_,_,rfl,(i32.t zt).as (by have:=ix.lt;have:=iy.ge;unfold sgZ;(try simp only [if_true,if_false,Bool.false_eq_true]);omega)⟩
  refine zG ?_
  refine zu [0,1,0,4,0,16,60,127,255] rfl ?_
  refine zH ?_
  refine dC (fc _ (ix.t zt).2 (iy.t zt).2 zhh zo) ?_
  rintro _ h34 n34 ⟨a34,l34,c34,rfl,i34⟩ y34 x34
  refine dC (yr _ i34 true) ?_
  rintro _ h35 n35 ⟨b35,a35,l35,c35,rfl,i35⟩ y35 x35
  refine dS [.bool b35,.slice a35 l35 c35] ?_
  intro h36 p36 o36
  refine zq ?_
  exact ⟨_,_,_,_,rfl,(i35.t zt).as (by have:=ix.lt;have:=iy.ge;unfold sgZ;(try simp only [if_true,if_false,Bool.false_eq_true]);omega)⟩
 refine zG ?_
 refine zu [0,1,0,4,0,16,60,127,255] rfl ?_
 refine zH ?_
 refine dC (zii _ (ix.t zt).2 (iy.t zt).2 zhh) ?_
 rintro _ h37 n37 ⟨a37,l37,c37,rfl,i37⟩ y37 x37
 refine dC (yr _ i37 true) ?_
 rintro _ h38 n38 ⟨b38,a38,l38,c38,rfl,i38⟩ y38 x38
 refine dS [.bool b38,.slice a38 l38 c38] ?_
 intro h39 p39 o39
 refine zq ?_
 exact ⟨_,_,_,_,rfl,(i38.t zt).as (by have:=ix.lt;have:=iy.lt;unfold sgZ;(try simp only [if_true,if_false,Bool.false_eq_true]);omega)⟩
theorem oi {b:Bool}{x y:Int}(h:b=(decide (x<0) != decide (y<0))):sgZ b (x.natAbs*y.natAbs)=x*y:=by
 subst h
 by_cases hx:x<0<;>by_cases hy:y<0
 ·rw [decide_eq_true hx,decide_eq_true hy]
  show ((x.natAbs*y.natAbs:Nat):Int)=_
  rw [Int.natCast_mul,Int.ofNat_natAbs_of_nonpos zo,Int.ofNat_natAbs_of_nonpos zo,Int.neg_mul_neg]
 ·rw [decide_eq_true hx,decide_eq_false hy]
  show -((x.natAbs*y.natAbs:Nat):Int)=_
  rw [Int.natCast_mul,Int.ofNat_natAbs_of_nonpos zo,Int.natAbs_of_nonneg zo,Int.neg_mul,Int.neg_neg]
 ·rw [decide_eq_false hx,decide_eq_true hy]
  show -((x.natAbs*y.natAbs:Nat):Int)=_
  rw [Int.natCast_mul,Int.natAbs_of_nonneg zo,Int.ofNat_natAbs_of_nonpos zo,Int.mul_neg,Int.neg_neg]
 rw [decide_eq_false hx,decide_eq_false hy]
 show ((x.natAbs*y.natAbs:Nat):Int)=_
 rw [Int.natCast_mul,Int.natAbs_of_nonneg zo,Int.natAbs_of_nonneg zo]
theorem oh {b:Bool}{x y:Int}(h:b=(decide (x<0) != decide (y<0))):sgZ b (x.natAbs/y.natAbs)=x.tdiv y:=by
 subst h
 by_cases hx:x<0<;>by_cases hy:y<0
 ·obtain ⟨a,rfl⟩:∃a:Nat,x= -(a:Int):=⟨x.natAbs,zo⟩
  obtain ⟨c,rfl⟩:∃c:Nat,y= -(c:Int):=⟨y.natAbs,zo⟩
  rw [decide_eq_true hx,decide_eq_true hy,Int.neg_tdiv,Int.tdiv_neg,Int.neg_neg,Int.natAbs_neg,Int.natAbs_neg]
  rfl
 ·obtain ⟨a,rfl⟩:∃a:Nat,x= -(a:Int):=⟨x.natAbs,zo⟩
  obtain ⟨c,rfl⟩:∃c:Nat,y=(c:Int):=⟨y.natAbs,zo⟩
  rw [decide_eq_true hx,decide_eq_false hy,Int.neg_tdiv,Int.natAbs_neg]
  rfl
 ·obtain ⟨a,rfl⟩:∃a:Nat,x=(a:Int):=⟨x.natAbs,zo⟩
  obtain ⟨c,rfl⟩:∃c:Nat,y= -(c:Int):=⟨y.natAbs,zo⟩
  rw [decide_eq_false hx,decide_eq_true hy,Int.tdiv_neg,Int.natAbs_neg]
  rfl
 obtain ⟨a,rfl⟩:∃a:Nat,x=(a:Int):=⟨x.natAbs,zo⟩
 obtain ⟨c,rfl⟩:∃c:Nat,y=(c:Int):=⟨y.natAbs,zo⟩
 rw [decide_eq_false hx,decide_eq_false hy]
 rfl
theorem mulX (k:Nat){x:Int}{y:Int}(ix:IW h n sx ax lx cx x)(iy:IW h n sy ay ly cy y)(hx:x.natAbs<BW)(hy:y.natAbs<BW):CX (cal (k+5)) 40 [.agg #[.bool sx,.slice ax lx cx],.agg #[.bool sy,.slice ay ly cy]] h n (IV (x*y)):=by
 refine zv (fn:=Tryz.f40) R4 ?_
 refine zG ?_
 refine sB [.bool sx,.slice ax lx cx] ?_
 intro h11 p11 x11
 refine sB [.bool sy,.slice ay ly cy] ?_
 intro h12 p12 x12
 refine sA ?_
 intro h13 p13 x13
 refine zG ?_
 refine zu [0,1,0,4,15,0,32,0,128,480,1023,2047] rfl ?_
 refine zH ?_
 cases sx
 ·refine zH ?_
  cases sy
  ·refine zH ?_
   refine dC (cH _ (ix.t zt).2 (iy.t zt).2 zhh) ?_
   rintro _ h14 n14 ⟨a14,l14,c14,rfl,i14⟩ y14 x14
   refine dC (yr _ i14 false) ?_
   rintro _ h15 n15 ⟨b15,a15,l15,c15,rfl,i15⟩ y15 x15
   refine dS [.bool b15,.slice a15 l15 c15] ?_
   intro h16 p16 o16
   refine zq ?_
   exact ⟨_,_,_,_,rfl,(i15.t zt).as (by have:=ix.ge;have:=iy.ge;exact oi (by simp<;>omega))⟩
  refine zH ?_
  refine dC (cH _ (ix.t zt).2 (iy.t zt).2 zhh) ?_
  rintro _ h17 n17 ⟨a17,l17,c17,rfl,i17⟩ y17 x17
  refine dC (yr _ i17 true) ?_
  rintro _ h18 n18 ⟨b18,a18,l18,c18,rfl,i18⟩ y18 x18
  refine dS [.bool b18,.slice a18 l18 c18] ?_
  intro h19 p19 o19
  refine zq ?_
  exact ⟨_,_,_,_,rfl,(i18.t zt).as (by have:=ix.ge;have:=iy.lt;exact oi (by simp<;>omega))⟩
 refine zH ?_
 cases sy
 ·refine zH ?_
  refine dC (cH _ (ix.t zt).2 (iy.t zt).2 zhh) ?_
  rintro _ h20 n20 ⟨a20,l20,c20,rfl,i20⟩ y20 x20
  refine dC (yr _ i20 true) ?_
  rintro _ h21 n21 ⟨b21,a21,l21,c21,rfl,i21⟩ y21 x21
  refine dS [.bool b21,.slice a21 l21 c21] ?_
  intro h22 p22 o22
  refine zq ?_
  exact ⟨_,_,_,_,rfl,(i21.t zt).as (by have:=ix.lt;have:=iy.ge;exact oi (by simp<;>omega))⟩
 refine zH ?_
 refine dC (cH _ (ix.t zt).2 (iy.t zt).2 zhh) ?_
 rintro _ h23 n23 ⟨a23,l23,c23,rfl,i23⟩ y23 x23
 refine dC (yr _ i23 false) ?_
 rintro _ h24 n24 ⟨b24,a24,l24,c24,rfl,i24⟩ y24 x24
 refine dS [.bool b24,.slice a24 l24 c24] ?_
 intro h25 p25 o25
 refine zq ?_
 exact ⟨_,_,_,_,rfl,(i24.t zt).as (by have:=ix.lt;have:=iy.lt;exact oi (by simp<;>omega))⟩
theorem zfb (k:Nat){x:Int}{y:Int}(ix:IW h n sx ax lx cx x)(iy:IW h n sy ay ly cy y)(hx:x.natAbs<BW)(hy:y.natAbs<BW)(hy0:y≠0):CX (cal (k+7)) 83 [.agg #[.bool sx,.slice ax lx cx],.agg #[.bool sy,.slice ay ly cy]] h n fun v h' n'=>∃b a l c g d e f,v=.tuple #[.agg #[.bool b,.slice a l c],.agg #[.bool g,.slice d e f]]∧IW h' n' b a l c (x.tdiv y)∧∃r,IW h' n' g d e f r:=by
 refine zv (fn:=Tryz.f83) R4 ?_
 refine zG ?_
 refine sB [.bool sx,.slice ax lx cx] ?_
 intro h11 p11 x11
 refine sB [.bool sy,.slice ay ly cy] ?_
 intro h12 p12 x12
 refine sA ?_
 intro h13 p13 x13
 refine sA ?_
 intro h14 p14 x14
 refine zG ?_
 by_cases q15:(ly:Int)=0
 ·refine zG ?_
  refine sT #[.bool false,.slice none 0 0] ?_
  refine sT #[.bool false,.slice none 0 0] ?_
  refine sS [.bool false,.slice none 0 0] ?_
  intro h16 p16 o16
  refine sS [.bool false,.slice none 0 0] ?_
  intro h17 p17 o17
  refine zG ?_
  exact absurd (iy.2.zero.1 zo) zo
 refine zG ?_
 refine sC (zh9 _ (ix.t zt).2 (iy.t zt).2 zhh zo) ?_
 rintro _ h18 n18 ⟨a18,l18,c18,d18,e18,f18,rfl,i18,j18⟩ y18 x18
 refine zG ?_
 refine zu [0,1,0,4,15,0,63,0,128,0,1023,2047,4095] rfl ?_
 refine zH ?_
 cases sx
 ·refine zH ?_
  cases sy
  ·refine zH ?_
   refine dC (yr _ i18 false) ?_
   rintro _ h19 n19 ⟨b19,a19,l19,c19,rfl,i19⟩ y19 x19
   refine zH ?_
   refine dC (yr _ (j18.t zt) false) ?_
   rintro _ h20 n20 ⟨b20,a20,l20,c20,rfl,i20⟩ y20 x20
   refine dS [.bool b19,.slice a19 l19 c19] ?_
   intro h21 p21 o21
   refine dS [.bool b20,.slice a20 l20 c20] ?_
   intro h22 p22 o22
   refine zq ?_
   exact ⟨_,_,_,_,_,_,_,_,rfl,(i19.t zt).as (by have:=ix.ge;have:=iy.ge;exact oh (by simp<;>omega)),_,(i20.t zt)⟩
  refine zH ?_
  refine dC (yr _ i18 true) ?_
  rintro _ h23 n23 ⟨b23,a23,l23,c23,rfl,i23⟩ y23 x23
  refine zH ?_
  refine dC (yr _ (j18.t zt) false) ?_
  rintro _ h24 n24 ⟨b24,a24,l24,c24,rfl,i24⟩ y24 x24
  refine dS [.bool b23,.slice a23 l23 c23] ?_
  intro h25 p25 o25
  refine dS [.bool b24,.slice a24 l24 c24] ?_
  intro h26 p26 o26
  refine zq ?_
  exact ⟨_,_,_,_,_,_,_,_,rfl,(i23.t zt).as (by have:=ix.ge;have:=iy.lt;exact oh (by simp<;>omega)),_,(i24.t zt)⟩
 refine zH ?_
 cases sy
 ·refine zH ?_
  refine dC (yr _ i18 true) ?_
  rintro _ h27 n27 ⟨b27,a27,l27,c27,rfl,i27⟩ y27 x27
  refine zH ?_
  refine dC (yr _ (j18.t zt) true) ?_
  rintro _ h28 n28 ⟨b28,a28,l28,c28,rfl,i28⟩ y28 x28
  refine dS [.bool b27,.slice a27 l27 c27] ?_
  intro h29 p29 o29
  refine dS [.bool b28,.slice a28 l28 c28] ?_
  intro h30 p30 o30
  refine zq ?_
  exact ⟨_,_,_,_,_,_,_,_,rfl,(i27.t zt).as (by have:=ix.lt;have:=iy.ge;exact oh (by simp<;>omega)),_,(i28.t zt)⟩
 refine zH ?_
 refine dC (yr _ i18 false) ?_
 rintro _ h31 n31 ⟨b31,a31,l31,c31,rfl,i31⟩ y31 x31
 refine zH ?_
 refine dC (yr _ (j18.t zt) true) ?_
 rintro _ h32 n32 ⟨b32,a32,l32,c32,rfl,i32⟩ y32 x32
 refine dS [.bool b31,.slice a31 l31 c31] ?_
 intro h33 p33 o33
 refine dS [.bool b32,.slice a32 l32 c32] ?_
 intro h34 p34 o34
 refine zq ?_
 exact ⟨_,_,_,_,_,_,_,_,rfl,(i31.t zt).as (by have:=ix.lt;have:=iy.lt;exact oh (by simp<;>omega)),_,(i32.t zt)⟩
theorem quoX (k:Nat){x:Int}{y:Int}(ix:IW h n sx ax lx cx x)(iy:IW h n sy ay ly cy y)(hx:x.natAbs<BW)(hy:y.natAbs<BW)(hy0:y≠0):CX (cal (k+8)) 42 [.agg #[.bool sx,.slice ax lx cx],.agg #[.bool sy,.slice ay ly cy]] h n (IV (x.tdiv y)):=by
 refine zv (fn:=Tryz.f42) R4 ?_
 refine zG ?_
 refine sB [.bool sx,.slice ax lx cx] ?_
 intro h11 p11 x11
 refine sB [.bool sy,.slice ay ly cy] ?_
 intro h12 p12 x12
 refine sA ?_
 intro h13 p13 x13
 refine zG ?_
 refine sC (uK _ (iy.t zt)) ?_
 rintro _ h14 n14 ⟨b14,rfl,bq14⟩ y14 x14
 rcases bvs bq14 with ⟨rfl,q14⟩|⟨rfl,q14⟩
 ·refine zG ?_
  refine sC (zfb _ (ix.t zt) (iy.t zt) hx hy hy0) ?_
  rintro _ h15 n15 ⟨b15,a15,l15,c15,g15,d15,e15,f15,rfl,i15,r15,j15⟩ y15 x15
  refine zG ?_
  refine sA ?_
  intro h16 p16 x16
  refine sA ?_
  intro h17 p17 x17
  refine sS [.bool b15,.slice a15 l15 c15] ?_
  intro h18 p18 o18
  refine sS [.bool g15,.slice d15 e15 f15] ?_
  intro h19 p19 o19
  refine zG ?_
  refine sS [.bool b15,.slice a15 l15 c15] ?_
  intro h20 p20 o20
  refine zq ?_
  exact ⟨_,_,_,_,rfl,(i15.t zt)⟩
 refine zG ?_
 refine sS [.bool sx,.slice ax lx cx] ?_
 intro h21 p21 o21
 refine zq ?_
 exact ⟨_,_,_,_,rfl,(ix.t zt).as (by rw [q14,Int.tdiv_one])⟩
theorem gcdX (k:Nat){x:Int}{y:Int}(g:GG h n)(ix:IW h n sx ax lx cx x)(iy:IW h n sy ay ly cy y)(hx:x.natAbs<BW)(hy:y.natAbs<BW):CX (cal (k+8)) 41 [.agg #[.bool sx,.slice ax lx cx],.agg #[.bool sy,.slice ay ly cy]] h n (IV ((Nat.gcd x.natAbs y.natAbs:Nat):Int)):=by
 refine zv (fn:=Tryz.f41) R4 ?_
 refine zG ?_
 refine sB [.bool sx,.slice ax lx cx] ?_
 intro h11 p11 x11
 refine sB [.bool sy,.slice ay ly cy] ?_
 intro h12 p12 x12
 refine sA ?_
 intro h13 p13 x13
 refine zG ?_
 refine sC (zh1 _ (g.t zt) (ix.t zt).2 (iy.t zt).2 zhh) ?_
 rintro _ h14 n14 ⟨a14,l14,c14,rfl,i14⟩ y14 x14
 refine sT #[.bool false,.slice a14 l14 c14] ?_
 refine sS [.bool false,.slice a14 l14 c14] ?_
 intro h15 p15 o15
 refine zq ?_
 exact ⟨_,_,_,_,rfl,by rw [decide_eq_false];exact Int.not_lt.2 (Int.natCast_nonneg _),(i14.t zt)⟩
theorem aG (k:Nat){x:Int}{y:Int}(ix:IW h n sx ax lx cx x)(iy:IW h n sy ay ly cy y)(hx:x.natAbs<BW)(hy:y.natAbs<BW):VF (cal (k+4)) 122 [.agg #[.bool sx,.slice ax lx cx],.agg #[.bool sy,.slice ay ly cy]] h n fun v=>∃s:Int,v=.int .i64 s∧(s= -1∧x<y∨s=0∧x=y∨s=1∧y<x):=by
 refine zB (fn:=Tryz.f122) R4 ?_
 refine zG ?_
 refine sB [.bool sx,.slice ax lx cx] ?_
 intro h11 p11 x11
 refine sB [.bool sy,.slice ay ly cy] ?_
 intro h12 p12 x12
 refine zG ?_
 cases sx
 ·refine zG ?_
  cases sy
  ·refine zG ?_
   refine sC (ei _ (ix.t zt).2 (iy.t zt).2 zhh) ?_
   rintro _ h13 n13 ⟨s13,rfl,q13⟩ y13 x13
   rcases q13 with ⟨rfl,q13⟩|⟨rfl,q13⟩|⟨rfl,q13⟩
   ·refine zf ?_
    exact ⟨_,rfl,by have:=ix.ge;have:=iy.ge;omega⟩
   ·refine zf ?_
    exact ⟨_,rfl,by have:=ix.ge;have:=iy.ge;omega⟩
   refine zf ?_
   exact ⟨_,rfl,by have:=ix.ge;have:=iy.ge;omega⟩
  refine zf ?_
  exact ⟨_,rfl,by have:=ix.ge;have:=iy.lt;omega⟩
 refine zG ?_
 cases sy
 ·refine zf ?_
  exact ⟨_,rfl,by have:=ix.lt;have:=iy.ge;omega⟩
 refine zG ?_
 refine sC (ei _ (iy.t zt).2 (ix.t zt).2 zhh) ?_
 rintro _ h14 n14 ⟨s14,rfl,q14⟩ y14 x14
 rcases q14 with ⟨rfl,q14⟩|⟨rfl,q14⟩|⟨rfl,q14⟩
 ·refine zf ?_
  exact ⟨_,rfl,by have:=ix.lt;have:=iy.lt;omega⟩
 ·refine zf ?_
  exact ⟨_,rfl,by have:=ix.lt;have:=iy.lt;omega⟩
 refine zf ?_
 exact ⟨_,rfl,by have:=ix.lt;have:=iy.lt;omega⟩
theorem zf0 (k:Nat){x:Int}{y:Int}(ix:IW h n sx ax lx cx x)(iy:IW h n sy ay ly cy y)(hx:x.natAbs<BW)(hy:y.natAbs<BW):VF (cal (k+4)) 98 [.agg #[.bool sx,.slice ax lx cx],.agg #[.bool sy,.slice ay ly cy]] h n fun v=>∃b:Bool,v=.bool b∧(b=true↔x=y):=by
 refine zB (fn:=Tryz.f98) R4 ?_
 refine zG ?_
 refine sB [.bool sx,.slice ax lx cx] ?_
 intro h11 p11 x11
 refine sB [.bool sy,.slice ay ly cy] ?_
 intro h12 p12 x12
 refine zG ?_
 cases sx
 ·refine zG ?_
  cases sy
  ·refine zG ?_
   refine sC (ei _ (ix.t zt).2 (iy.t zt).2 zhh) ?_
   rintro _ h13 n13 ⟨s13,rfl,q13⟩ y13 x13
   rcases q13 with ⟨rfl,q13⟩|⟨rfl,q13⟩|⟨rfl,q13⟩
   ·refine zf ?_
    exact ⟨_,rfl,by have:=ix.ge;have:=iy.ge;simp only [reduceCtorEq,true_iff,false_iff];omega⟩
   ·refine zf ?_
    exact ⟨_,rfl,by have:=ix.ge;have:=iy.ge;simp only [reduceCtorEq,true_iff,false_iff];omega⟩
   refine zf ?_
   exact ⟨_,rfl,by have:=ix.ge;have:=iy.ge;simp only [reduceCtorEq,true_iff,false_iff];omega⟩
  refine zf ?_
  exact ⟨_,rfl,by have:=ix.ge;have:=iy.lt;simp only [reduceCtorEq,true_iff,false_iff];omega⟩
 refine zG ?_
 cases sy
 ·refine zf ?_
  exact ⟨_,rfl,by have:=ix.lt;have:=iy.ge;simp only [reduceCtorEq,true_iff,false_iff];omega⟩
 refine zG ?_
 refine sC (ei _ (ix.t zt).2 (iy.t zt).2 zhh) ?_
 rintro _ h14 n14 ⟨s14,rfl,q14⟩ y14 x14
 rcases q14 with ⟨rfl,q14⟩|⟨rfl,q14⟩|⟨rfl,q14⟩
 ·refine zf ?_
  exact ⟨_,rfl,by have:=ix.lt;have:=iy.lt;simp only [reduceCtorEq,true_iff,false_iff];omega⟩
 ·refine zf ?_
  exact ⟨_,rfl,by have:=ix.lt;have:=iy.lt;simp only [reduceCtorEq,true_iff,false_iff];omega⟩
 refine zf ?_
 exact ⟨_,rfl,by have:=ix.lt;have:=iy.lt;simp only [reduceCtorEq,true_iff,false_iff];omega⟩
end
def denZ (q:Rat):Int:=if q.den=1 then 0 else (q.den:Int)
theorem yf {q:Rat}:denZ q=0↔q.den=1:=by
 unfold denZ
 have:=q.den_pos
 split<;>omega
theorem xO {q:Rat}(h:¬denZ q=0):denZ q=(q.den:Int):=by
 unfold denZ at*
 split
 ·rename_i h1;rw [if_pos h1] at h;exact absurd rfl h
 rfl
theorem vz (x y:Rat):(x+y).num=(x.num*y.den+y.num*x.den)/((Nat.gcd (x.num*y.den+y.num*x.den).natAbs (x.den*y.den):Nat):Int):=by
 rw [Rat.add_def,Rat.normalize_eq]
theorem vA (x y:Rat):(x+y).den=(x.den*y.den)/Nat.gcd (x.num*y.den+y.num*x.den).natAbs (x.den*y.den):=by
 rw [Rat.add_def,Rat.normalize_eq]
theorem uT (x y:Rat):(x*y).num=(x.num*y.num)/((Nat.gcd (x.num*y.num).natAbs (x.den*y.den):Nat):Int):=by
 rw [Rat.mul_def,Rat.normalize_eq]
theorem uU (x y:Rat):(x*y).den=(x.den*y.den)/Nat.gcd (x.num*y.num).natAbs (x.den*y.den):=by
 rw [Rat.mul_def,Rat.normalize_eq]
theorem uY (a b:Int)(m:Nat):Nat.gcd (a*m+b).natAbs m=Nat.gcd b.natAbs m:=by
 have h1:(Int.gcd (a*m+b) m)=Int.gcd b m:=by
  rw [Int.add_comm,Int.gcd_add_mul_right_left]
 simpa [Int.gcd] using h1
theorem zen {x y:Rat}(hx:denZ x=0)(hy:denZ y=0):(x+y).num=x.num+y.num∧denZ (x+y)=0:=by
 rw [yf] at*
 have h1:=vz x y
 have h2:=vA x y
 rw [hx,hy] at h1 h2
 simp at h1 h2
 exact ⟨h1,h2⟩
theorem zan {x y:Rat}(hx:denZ x=0)(hy:¬denZ y=0):(x+y).num=x.num*denZ y+y.num∧denZ (x+y)=denZ y:=by
 have hy1:=xO hy
 rw [yf] at hx hy
 have h1:=vz x y
 have h2:=vA x y
 have hg:Nat.gcd (x.num*(y.den:Int)+y.num).natAbs y.den=1:=(uY x.num y.num y.den).trans y.reduced
 rw [hx] at h1 h2
 simp only [Nat.one_mul] at h1 h2
 have e:((1:Nat):Int)=1:=rfl
 rw [e,Int.mul_one,hg] at h1
 rw [e,Int.mul_one,hg,Nat.div_one] at h2
 rw [h1,hy1]
 refine ⟨by rw [e,Int.ediv_one],?_⟩
 unfold denZ
 rw [h2,if_neg hy]
theorem zem {x y:Rat}(hx:¬denZ x=0)(hy:denZ y=0):(x+y).num=y.num*denZ x+x.num∧denZ (x+y)=denZ x:=by
 rw [Rat.add_comm]
 exact zan hy hx
structure AddS (x y:Rat)(d l r:Nat)(N:Int)(s:Nat):Prop where
 hd:d=Nat.gcd x.den y.den
 hl:y.den=d*l
 hr:x.den=d*r
 hN:N=x.num*l+y.num*r
 hs:s=Nat.gcd N.natAbs d
theorem AddS.cop {x y:Rat}{d l r:Nat}{N:Int}{s:Nat}(a:AddS x y d l r N s):Nat.gcd N.natAbs (r*l)=1:=by
 have hd0:0<d:=by rw [a.hd];exact Nat.gcd_pos_of_pos_left _ x.den_pos
 have hlr:Nat.Coprime l r:=by
  have h1:Nat.gcd x.den y.den=d*Nat.gcd r l:=by rw [a.hr,a.hl,Nat.gcd_mul_left]
  rw [←a.hd] at h1
  have:d*1=d*Nat.gcd r l:=zo
  have:=Nat.eq_of_mul_eq_mul_left hd0 this
  rw [Nat.coprime_iff_gcd_eq_one,Nat.gcd_comm];exact this.symm
 have hxr:Nat.Coprime x.num.natAbs r:=Nat.Coprime.coprime_dvd_right ⟨d,by rw [a.hr,Nat.mul_comm]⟩ x.reduced
 have hyl:Nat.Coprime y.num.natAbs l:=Nat.Coprime.coprime_dvd_right ⟨d,by rw [a.hl,Nat.mul_comm]⟩ y.reduced
 have h1:Nat.gcd N.natAbs r=1:=by
  have:Nat.gcd (y.num*(r:Int)+x.num*(l:Int)).natAbs r=1:=by
   rw [uY,Int.natAbs_mul,Int.natAbs_natCast]
   exact Nat.Coprime.mul_left hxr hlr
  rw [a.hN,Int.add_comm];exact this
 have h2:Nat.gcd N.natAbs l=1:=by
  have:Nat.gcd (x.num*(l:Int)+y.num*(r:Int)).natAbs l=1:=by
   rw [uY,Int.natAbs_mul,Int.natAbs_natCast]
   exact Nat.Coprime.mul_left hyl hlr.symm
  rw [a.hN];exact this
 exact Nat.Coprime.mul_right h1 h2
theorem AddS.res {x y:Rat}{d l r:Nat}{N:Int}{s:Nat}(a:AddS x y d l r N s):(x+y).num=N.tdiv (s:Int)∧(x+y).den=r*(y.den/s):=by
 have hd0:0<d:=by rw [a.hd];exact Nat.gcd_pos_of_pos_left _ x.den_pos
 have hs0:0<s:=by rw [a.hs];exact Nat.gcd_pos_of_pos_right _ hd0
 have hc:=a.cop
 have h1:=vz x y
 have h2:=vA x y
 have e1:x.num*(y.den:Int)+y.num*(x.den:Int)=(d:Int)*N:=by
  rw [a.hl,a.hr,a.hN];simp only [Int.natCast_mul];grind
 have e2:x.den*y.den=d*(r*l*d):=by rw [a.hl,a.hr];grind
 have e3:Nat.gcd ((d:Int)*N).natAbs (d*(r*l*d))=d*s:=by
  rw [Int.natAbs_mul,Int.natAbs_natCast,Nat.gcd_mul_left,Nat.Coprime.gcd_mul_left_cancel_right d (Nat.Coprime.symm hc),←a.hs]
 rw [e1,e2,e3] at h1
 rw [e1,e2,e3] at h2
 have hsN:(s:Int)∣N:=by
  have:s∣N.natAbs:=by rw [a.hs];exact Nat.gcd_dvd_left _ _
  exact Int.ofNat_dvd_left.2 this
 have hsd:s∣d:=by rw [a.hs];exact Nat.gcd_dvd_right _ _
 refine ⟨?_,?_⟩
 ·rw [h1,Int.natCast_mul,Int.mul_ediv_mul_of_pos _ _ zo,Int.tdiv_eq_ediv_of_dvd hsN]
 rw [h2,Nat.mul_div_mul_left _ _ hd0]
 obtain ⟨e,he⟩:=hsd
 rw [a.hl,he]
 rw [show r*l*(s*e)=s*(r*(l*e)) from by grind,Nat.mul_div_cancel_left _ hs0,show s*e*l=s*(l*e) from by grind,Nat.mul_div_cancel_left _ hs0]
theorem pU (a b:Nat):(a:Int).tdiv (b:Int)=((a/b:Nat):Int):=rfl
theorem AddS.mk' {x y:Rat}(hx:¬denZ x=0)(hy:¬denZ y=0):∃d l r N s,AddS x y d l r N s∧((Nat.gcd (denZ x).natAbs (denZ y).natAbs:Nat):Int)=d∧(denZ y).tdiv ((Nat.gcd (denZ x).natAbs (denZ y).natAbs:Nat):Int)=l∧(denZ x).tdiv ((Nat.gcd (denZ x).natAbs (denZ y).natAbs:Nat):Int)=r∧x.num*((denZ y).tdiv ((Nat.gcd (denZ x).natAbs (denZ y).natAbs:Nat):Int))+y.num*((denZ x).tdiv ((Nat.gcd (denZ x).natAbs (denZ y).natAbs:Nat):Int))=N∧∀M:Int,M=N→((Nat.gcd M.natAbs (((Nat.gcd (denZ x).natAbs (denZ y).natAbs:Nat):Int)).natAbs:Nat):Int)=(s:Nat):=by
 rw [xO hx,xO hy]
 simp only [Int.natAbs_natCast,pU]
 have hd0:0<Nat.gcd x.den y.den:=Nat.gcd_pos_of_pos_left _ x.den_pos
 refine ⟨Nat.gcd x.den y.den,y.den/Nat.gcd x.den y.den,x.den/Nat.gcd x.den y.den,_,Nat.gcd (x.num*((y.den/Nat.gcd x.den y.den:Nat):Int)+y.num*((x.den/Nat.gcd x.den y.den:Nat):Int)).natAbs (Nat.gcd x.den y.den),⟨rfl,?_,?_,rfl,rfl⟩,rfl,rfl,rfl,rfl,?_⟩
 ·rw [Nat.mul_div_cancel' (Nat.gcd_dvd_right _ _)]
 ·rw [Nat.mul_div_cancel' (Nat.gcd_dvd_left _ _)]
 intro M hM;rw [hM]
theorem zfj (x y:Rat):(x*y).num=(x.num/((Nat.gcd x.num.natAbs y.den:Nat):Int))*(y.num/((Nat.gcd y.num.natAbs x.den:Nat):Int))∧(x*y).den=(x.den/Nat.gcd y.num.natAbs x.den)*(y.den/Nat.gcd x.num.natAbs y.den):=by
 have h1:=uT x y
 have h2:=uU x y
 have hg:Nat.gcd (x.num*y.num).natAbs (x.den*y.den)=Nat.gcd x.num.natAbs y.den*Nat.gcd y.num.natAbs x.den:=by
  rw [Int.natAbs_mul]
  by_cases hx:x.num=0
  ·have hxd:x.den=1:=by have:=x.reduced;rw [hx] at this;simpa using this
   rw [hx,hxd];simp
  by_cases hy:y.num=0
  ·have hyd:y.den=1:=by have:=y.reduced;rw [hy] at this;simpa using this
   rw [hy,hyd];simp
  have p1:0<Nat.gcd x.num.natAbs y.den:=Nat.gcd_pos_of_pos_right _ y.den_pos
  have p2:0<Nat.gcd y.num.natAbs x.den:=Nat.gcd_pos_of_pos_right _ x.den_pos
  have c1:=Nat.coprime_div_gcd_div_gcd p1
  have c2:=Nat.coprime_div_gcd_div_gcd p2
  have q1:=Nat.mul_div_cancel' (Nat.gcd_dvd_left x.num.natAbs y.den)
  have q2:=Nat.mul_div_cancel' (Nat.gcd_dvd_right x.num.natAbs y.den)
  have q3:=Nat.mul_div_cancel' (Nat.gcd_dvd_left y.num.natAbs x.den)
  have q4:=Nat.mul_div_cancel' (Nat.gcd_dvd_right y.num.natAbs x.den)
  have hx1:=x.reduced
  have hy1:=y.reduced
  generalize Nat.gcd x.num.natAbs y.den=g1 at*
  generalize Nat.gcd y.num.natAbs x.den=g2 at*
  generalize x.num.natAbs/g1=a at*
  generalize y.den/g1=b at*
  generalize y.num.natAbs/g2=c at*
  generalize x.den/g2=e at*
  rw [←q1,←q2,←q3,←q4]
  rw [←q1,←q4] at hx1
  rw [←q3,←q2] at hy1
  have cae:Nat.Coprime a e:=Nat.Coprime.coprime_dvd_left ⟨g1,Nat.mul_comm _ _⟩ (Nat.Coprime.coprime_dvd_right ⟨g2,Nat.mul_comm _ _⟩ hx1)
  have ccb:Nat.Coprime c b:=Nat.Coprime.coprime_dvd_left ⟨g2,Nat.mul_comm _ _⟩ (Nat.Coprime.coprime_dvd_right ⟨g1,Nat.mul_comm _ _⟩ hy1)
  have:Nat.Coprime (a*c) (e*b):=Nat.Coprime.mul_left (Nat.Coprime.mul_right cae c1) (Nat.Coprime.mul_right c2 ccb)
  rw [show g1*a*(g2*c)=(g1*g2)*(a*c) from by grind,show g2*e*(g1*b)=(g1*g2)*(e*b) from by grind,Nat.gcd_mul_left,this,Nat.mul_one]
 rw [hg] at h1 h2
 have d1:((Nat.gcd x.num.natAbs y.den:Nat):Int)∣x.num:=Int.ofNat_dvd_left.2 (Nat.gcd_dvd_left _ _)
 have d2:((Nat.gcd y.num.natAbs x.den:Nat):Int)∣y.num:=Int.ofNat_dvd_left.2 (Nat.gcd_dvd_left _ _)
 have d3:Nat.gcd y.num.natAbs x.den∣x.den:=Nat.gcd_dvd_right _ _
 have d4:Nat.gcd x.num.natAbs y.den∣y.den:=Nat.gcd_dvd_right _ _
 refine ⟨?_,?_⟩
 ·rw [h1,Int.natCast_mul]
  obtain ⟨u,hu⟩:=d1
  obtain ⟨v,hv⟩:=d2
  have p1:0<Nat.gcd x.num.natAbs y.den:=Nat.gcd_pos_of_pos_right _ y.den_pos
  have p2:0<Nat.gcd y.num.natAbs x.den:=Nat.gcd_pos_of_pos_right _ x.den_pos
  generalize Nat.gcd x.num.natAbs y.den=g1 at*
  generalize Nat.gcd y.num.natAbs x.den=g2 at*
  rw [hu,hv,Int.mul_ediv_cancel_left _ zo,Int.mul_ediv_cancel_left _ zo,show (g1:Int)*u*(g2*v)=(g1*g2)*(u*v) from by grind,Int.mul_ediv_cancel_left]
  exact Int.mul_ne_zero zo zo
 rw [h2]
 obtain ⟨u,hu⟩:=d3
 obtain ⟨v,hv⟩:=d4
 have p1:0<Nat.gcd x.num.natAbs y.den:=Nat.gcd_pos_of_pos_right _ y.den_pos
 have p2:0<Nat.gcd y.num.natAbs x.den:=Nat.gcd_pos_of_pos_right _ x.den_pos
 generalize Nat.gcd x.num.natAbs y.den=g1 at*
 generalize Nat.gcd y.num.natAbs x.den=g2 at*
 rw [hu,hv,Nat.mul_div_cancel_left _ p2,Nat.mul_div_cancel_left _ p1,show g2*u*(g1*v)=(g1*g2)*(u*v) from by grind,Nat.mul_div_cancel_left _ (Nat.mul_pos p1 p2)]
theorem oX (x y:Rat):(x<y↔x.num*y.den<y.num*x.den)∧(x=y↔x.num*y.den=y.num*x.den)∧(y<x↔y.num*x.den<x.num*y.den):=by
 refine ⟨Rat.lt_iff ..,?_,Rat.lt_iff ..⟩
 constructor
 ·rintro rfl;rfl
 intro h
 have h1:¬x<y:=by rw [Rat.lt_iff];omega
 have h2:¬y<x:=by rw [Rat.lt_iff];omega
 exact Rat.le_antisymm (Rat.not_lt.1 h2) (Rat.not_lt.1 h1)
end Go.Proofs.YtdcfbgmbaniglaaGreatDoor
