import Derived.Test.YtlmbghgklnmlkaaGreatDoorChkB
set_option maxHeartbeats 8000000
set_option linter.unusedVariables false
set_option linter.unusedSimpArgs false
namespace Go.Proofs.YtlmbghgklnmlkaaGreatDoor
open Go Go.GL
section
variable {h:HF}{c1 c2 l1 l2 n s:Nat}{a1 a2:Option Addr}{A C:List Nat}
theorem ep (k:Nat)(hA:Sl h n 1 (.slice a1 l1 c1) (u32s A))(hC:Sl h n 1 (.slice a2 l2 c2) (u32s C))(dA:Dig A)(dC:Dig C)(hb:A.length<1000000000)(hlc:C.length≤A.length)(hle:val C≤val A):
  CF (cal (k+2)) 156 [.slice a1 l1 c1,.slice a2 l2 c2] h n fun v h' n' w=>∃L,NewU n h v h' n' w L∧val L=val A-val C:=by
 refine zr (fn:=Tryz.f156) R4 ?_
 have e1:=hA.lenU
 have e2:=hC.lenU
 subst e1 e2
 refine zN ?_
 repeat refine zR ?_
 refine zN ?_
 repeat refine zR ?_
 refine xD (len:=A.length) (cap:=A.length) R9 zo ?_
 rw [show zl (Value.int .u32 0)=[Value.int .u32 0] from rfl,so]
 repeat refine zR ?_
 refine zN ?_
 repeat refine zR ?_
 refine zN ?_
 repeat refine zR ?_
 refine zN ?_
 refine zV (α:=List Nat×Nat) (fun z=>[(0,.slice a1 A.length c1),(1,.slice a2 C.length c2),(5,.slice (some ⟨3*n+2,0,none⟩) A.length A.length),(6,.int .u64 (z.2:Int)),(7,.int .i64 (z.1.length:Int))])
  (fun z h' n' w=>n'=n+1∧w=[]∧Ext n h h'∧(∃e,h' (3*n+2)=some (.row (u32s (z.1++List.replicate (A.length-z.1.length) 0)) e))∧z.1.length≤A.length∧Dig z.1∧z.2≤1∧dv 4294967296 z.1+dv 4294967296 (C.take z.1.length)=dv 4294967296 (A.take z.1.length)+z.2*4294967296^z.1.length) (fun z=>A.length-z.1.length)
  ([],0) ⟨rfl,rfl,rfl,rfl,rfl,trivial⟩ ⟨rfl,rfl,Ext.upd zo,⟨_,ze _ _ _⟩,Nat.zero_le _,fun d hd=>absurd hd List.not_mem_nil,by decide,by simp [dv]⟩ (by show A.length-0<LL;unfold LL;omega) ?_
 rintro ⟨D,c⟩ t h1 _ _ ⟨rfl,rfl,hx1,⟨e,hrow⟩,hD,dD,hc,hV⟩
 simp only at hrow hD dD hc hV
 refine zN ?_
 by_cases hi:D.length=A.length
 ·repeat refine zR ?_
  refine zN ?_
  rw [za rfl]
  refine zN ?_
  rw [hi,Nat.sub_self,List.replicate_zero,List.append_nil] at hrow
  repeat refine zR ?_
  refine zu _ R5 (wV k (l:=D) zo (Sl.own hrow zo hi (Nat.le_refl _))) ?_
  rintro v' _ _ _ ⟨rfl,rfl,rfl,rfl,hs⟩
  repeat refine zR ?_
  refine zN ?_
  refine retH _ ⟨rfl,(zi rfl),rfl⟩ ⟨zT D,⟨rfl,by show n≤n+1;omega,hx1,_,_,rfl,hs,Norm.trim dD,by show 3*n≤3*n+2;omega⟩,?_⟩
  rw [xE,xi]
  rw [xi,xi] at hle ⊢
  rw [hi,List.take_length,List.take_of_length_le hlc,←hi] at hV
  have hlt:=nz (B:=4294967296) dD
  have hc0:c=0∨c=1:=zo
  rcases hc0 with rfl|rfl<;>omega
 obtain ⟨da,hda⟩:∃x,A[D.length]?=some x:=⟨A[D.length]'zo,List.getElem?_eq_getElem zo⟩
 have hda':da<4294967296:=dA da (List.mem_of_getElem? hda)
 have hA1:=hA.ext hx1 (Nat.le_succ n)
 have hC1:=hC.ext hx1 (Nat.le_succ n)
 repeat refine zR ?_
 refine zN ?_
 rw [zc rfl]
 refine zN ?_
 repeat refine zR ?_
 refine z6 R7 hA1 R2 hda (fun _=>rfl) R4 fun _=>?_
 refine yQ R7 zo ?_
 refine zM ?_
 refine y8 (a:=da) (b:=c) R6 zo ?_
 repeat refine zR ?_
 refine zN ?_
 repeat refine zR ?_
 refine zN ?_
 have hcb:(C[D.length]?).getD 0<4294967296:=by
  cases hc':C[D.length]? with
  |none=>decide
  |some x=>exact dC x (List.mem_of_getElem? hc')
 refine pC [(0,.slice a1 A.length c1),(1,.slice a2 C.length c2),(5,.slice (some ⟨3*n+2,0,none⟩) A.length A.length),(7,.int .i64 (D.length:Int)),(8,.int .u64 (((da+18446744073709551616-(c+(C[D.length]?).getD 0))%18446744073709551616:Nat):Int))] (fun h' n' w=>h1=h'∧n'=n+1∧w=[]) ?_ ?_
 ·by_cases hj:D.length<C.length
  ·obtain ⟨dc,hdc⟩:∃x,C[D.length]?=some x:=⟨C[D.length]'zo,List.getElem?_eq_getElem zo⟩
   have hdc':dc<4294967296:=dC dc (List.mem_of_getElem? hdc)
   rw [zc (by show Value.bool _=_;rw [decide_eq_true zo])]
   refine zN ?_
   repeat refine zR ?_
   refine z6 R7 hC1 R2 hdc (fun _=>rfl) R4 fun _=>?_
   refine yQ R7 zo ?_
   refine y8 (a:=(da+18446744073709551616-c)%18446744073709551616) (b:=dc) R6 zo ?_
   repeat refine zR ?_
   refine zN ?_
   rw [hdc]
   exact vf ⟨rfl,rfl,rfl,rfl,by show Value.int .u64 _=Value.int .u64 _;congr 2;simp only [Option.getD_some];omega,trivial⟩ ⟨rfl,rfl,rfl⟩
  rw [za (by show Value.bool _=_;rw [decide_eq_false zo])]
  refine zN ?_
  rw [List.getElem?_eq_none zo]
  exact vf ⟨rfl,rfl,rfl,rfl,rfl,trivial⟩ ⟨rfl,rfl,rfl⟩
 rintro t2 _ _ _ ⟨rfl,rfl,rfl⟩
 generalize hdc:(C[D.length]?).getD 0=dc at hcb ⊢
 obtain ⟨X,hX⟩:∃X,X=(da+18446744073709551616-(c+dc))%18446744073709551616:=⟨_,rfl⟩
 rw [←hX]
 refine zN ?_
 repeat refine zR ?_
 refine yi R7 ?_
 obtain ⟨m,hm⟩:∃m,A.length-D.length=m+1:=⟨A.length-D.length-1,zo⟩
 rw [hm] at hrow
 refine y5 (j:=D.length) (v:=.int .u32 ((X%4294967296:Nat):Int)) R8 rfl (by simp [ya]<;>omega) hrow (by show 3*n≤3*n+2;omega) (fun _=>rfl) R3 (fun _=>rfl) rfl fun _=>?_
 rw [xk,sj]
 refine zN ?_
 refine zM ?_
 refine z7 (s:=32) R6 zo ?_
 refine vP (a:=X/2^32) (b:=1) R6 zo ?_
 rw [Nat.and_one_is_mod]
 repeat refine zR ?_
 refine zN ?_
 repeat refine zR ?_
 refine zN ?_
 refine goOn (D++[X%4294967296],X/2^32%2) (by simp;omega) ⟨rfl,rfl,rfl,rfl,by show Value.int .i64 _=Value.int .i64 _;simp,trivial⟩ ⟨rfl,rfl,fun b hb=>(zh zo).trans (hx1 b hb),⟨e,(ze _ _ _).trans (by show some (BF.row (u32s (D++[_]++List.replicate m 0)) e)=some (BF.row (u32s (D++[_]++List.replicate (A.length-(D++[_]).length) 0)) e);rw [List.length_append,List.length_singleton,show A.length-(D.length+1)=m from zo])⟩,by simp;omega,tn dD (Nat.mod_lt _ zo),by show _%_≤1;omega,?_⟩
 have e2:dv 4294967296 (C.take (D.length+1))=dv 4294967296 (C.take D.length)+4294967296^D.length*dc:=by
  by_cases hj:D.length<C.length
  ·have:C[D.length]?=some dc:=by rw [←hdc,List.getElem?_eq_getElem hj];rfl
   exact zQ this
  rw [List.getElem?_eq_none zo] at hdc
  simp only [Option.getD_none] at hdc
  rw [List.take_of_length_le zo,List.take_of_length_le zo,←hdc]
  simp
 show dv 4294967296 (D++[_])+dv 4294967296 (C.take (D++[_]).length)=dv 4294967296 (A.take (D++[_]).length)+_*4294967296^(D++[_]).length
 simp only [List.length_append,List.length_singleton]
 rw [zQ hda,e2,Nat.pow_succ (n:=4294967296),wK]
 have e3:X%4294967296+dc+c=da+X/2^32%2*4294967296:=zo
 have e4:4294967296^D.length*(X%4294967296+dc+c)=4294967296^D.length*(da+X/2^32%2*4294967296):=by rw [e3]
 rw [Nat.mul_add,Nat.mul_add,Nat.mul_add] at e4
 have e5:X/2^32%2*(4294967296^D.length*4294967296)=4294967296^D.length*(X/2^32%2*4294967296):=by rw [Nat.mul_left_comm]
 rw [e5]
 have e6:c*4294967296^D.length=4294967296^D.length*c:=Nat.mul_comm _ _
 omega
theorem dE {t x:Nat}(hs:s≤32)(ht:t<2^s):t|||(x*2^s%4294967296)=t+x*2^s%4294967296:=by
 have e:x*2^s%4294967296=2^s*(x%2^(32-s)):=by
  rw [show (4294967296:Nat)=2^s*2^(32-s) from by rw [←Nat.pow_add,show s+(32-s)=32 from zo],Nat.mul_comm x,Nat.mul_mod_mul_left]
 rw [e,Nat.or_comm,←Nat.two_pow_add_eq_or_of_lt ht,Nat.add_comm]
theorem zgz {t x:Nat}(hs:s≤32)(ht:t<2^s):t+x*2^s%4294967296<4294967296:=by
 rw [←dE hs ht]
 have h1:t<2^32:=Nat.lt_of_lt_of_le ht (Nat.pow_le_pow_right zo hs)
 exact Nat.or_lt_two_pow (n:=32) h1 (Nat.mod_lt _ zo)
theorem eK {x:Nat}(hx:x<4294967296):x*2^s/4294967296<2^s:=by
 rw [Nat.div_lt_iff_lt_mul zo,Nat.mul_comm]
 exact Nat.mul_lt_mul_of_pos_left hx (Nat.pow_pos zo)
theorem eZ (D:List Nat)(t m d:Nat)(x:Nat):((D++[t]++List.replicate (m+1) 0).set D.length d).set (D.length+1) x=(D++[d])++[x]++List.replicate m 0:=by
 rw [List.replicate_succ,List.append_assoc,List.set_append_right _ _ (Nat.le_refl _)]
 simp
theorem rO (k:Nat)(hA:Sl h n 1 (.slice a1 l1 c1) (u32s A))(dA:Dig A)(hb:A.length<1000000000)(hs:s<32):
  CF (cal (k+1)) 209 [.slice a1 l1 c1,.int .u64 (s:Int)] h n fun v h' n' w=>w=[]∧n'=n+1∧Ext n h h'∧∃L e,v=.slice (some ⟨3*n+2,0,none⟩) (A.length+1) (A.length+1)∧h' (3*n+2)=some (.row (u32s L) e)∧L.length=A.length+1∧Dig L∧dv 4294967296 L=dv 4294967296 A*2^s:=by
 refine zr (fn:=Tryz.f209) R4 ?_
 have e1:=hA.lenU
 subst e1
 have h2s:2^s≤2147483648:=show 2^s≤2^31 from Nat.pow_le_pow_right zo zo
 have h2p:0<2^s:=Nat.pow_pos zo
 refine zN ?_
 repeat refine zR ?_
 refine zN ?_
 repeat refine zR ?_
 refine xD (len:=A.length+1) (cap:=A.length+1) R9 zo ?_
 rw [show zl (Value.int .u32 0)=[Value.int .u32 0] from rfl,so]
 repeat refine zR ?_
 refine zN ?_
 repeat refine zR ?_
 refine zN ?_
 refine zV (α:=List Nat×Nat) (fun z=>[(0,.slice a1 A.length c1),(1,.int .u64 (s:Int)),(5,.slice (some ⟨3*n+2,0,none⟩) (A.length+1) (A.length+1)),(6,.int .i64 (z.1.length:Int))])
  (fun z h' n' w=>n'=n+1∧w=[]∧Ext n h h'∧(∃e,h' (3*n+2)=some (.row (u32s (z.1++[z.2]++List.replicate (A.length-z.1.length) 0)) e))∧z.1.length≤A.length∧Dig z.1∧z.2<2^s∧dv 4294967296 z.1+z.2*4294967296^z.1.length=dv 4294967296 (A.take z.1.length)*2^s) (fun z=>A.length-z.1.length)
  ([],0) ⟨rfl,rfl,rfl,rfl,trivial⟩ ⟨rfl,rfl,Ext.upd zo,⟨_,(ze _ _ _).trans (by rw [List.replicate_succ];rfl)⟩,Nat.zero_le _,fun d hd=>absurd hd List.not_mem_nil,h2p,by simp [dv]⟩ (by show A.length-0<LL;unfold LL;omega) ?_
 rintro ⟨D,tt⟩ t h1 _ _ ⟨rfl,rfl,hx1,⟨e,hrow⟩,hD,dD,htt,hV⟩
 simp only at hrow hD dD htt hV
 refine zN ?_
 by_cases hi:D.length=A.length
 ·repeat refine zR ?_
  refine zN ?_
  rw [za rfl]
  refine zN ?_
  rw [hi,Nat.sub_self,List.replicate_zero,List.append_nil] at hrow
  repeat refine zR ?_
  refine zN ?_
  refine retH _ ⟨rfl,(zi rfl),rfl⟩ ⟨rfl,rfl,hx1,D++[tt],e,rfl,hrow,by simp [hi],tn dD zo,?_⟩
  rw [hi,List.take_length,←hi] at hV
  rw [wK,Nat.mul_comm (4294967296^_),hV]
 obtain ⟨da,hda⟩:∃x,A[D.length]?=some x:=⟨A[D.length]'zo,List.getElem?_eq_getElem zo⟩
 have hda':da<4294967296:=dA da (List.mem_of_getElem? hda)
 have hA1:=hA.ext hx1 (Nat.le_succ n)
 obtain ⟨m,hm⟩:∃m,A.length-D.length=m+1:=⟨A.length-D.length-1,zo⟩
 rw [hm] at hrow
 have hv:da*2^s<18446744073709551616:=by
  have:da*2^s≤4294967295*2147483648:=Nat.mul_le_mul zo h2s
  omega
 repeat refine zR ?_
 refine zN ?_
 rw [zc rfl]
 refine zN ?_
 repeat refine zR ?_
 refine z6 R7 hA1 R2 hda (fun _=>rfl) R4 fun _=>?_
 refine yQ R7 zo ?_
 refine zM ?_
 refine yz (a:=da) (s:=s) R6 zo ?_
 rw [Nat.mod_eq_of_lt hv]
 repeat refine zR ?_
 refine zN ?_
 repeat refine zR ?_
 refine z6 (j:=D.length) (dv:=tt) R7 (Sl.own hrow (show _<3*(n+1) by omega) (by simp;omega) (Nat.le_refl _)) R2 (by simp) (fun _=>rfl) R4 fun _=>?_
 refine zM ?_
 refine yi R7 ?_
 refine mb (a:=tt) (b:=da*2^s%4294967296) R6 zo ?_
 rw [dE zo htt]
 refine y5 (j:=D.length) (v:=.int .u32 ((tt+da*2^s%4294967296:Nat):Int)) R8 rfl (by rw [ya];simp<;>omega) hrow (by show 3*n≤3*n+2;omega) (fun _=>rfl) R3 (fun _=>rfl) rfl fun _=>?_
 refine zN ?_
 have htop:=eK (s:=s) hda'
 repeat refine zU ?_
 refine y5 (j:=D.length+1) (v:=.int .u32 ((da*2^s/2^32:Nat):Int)) R8 zo (by rw [List.length_set,ya];simp<;>omega) (ze _ _ _) (by show 3*n≤3*n+2;omega) (fun _=>rfl) R3 (fun _=>rfl) rfl fun _=>?_
 rw [xC,xk,xk,eZ]
 refine zN ?_
 repeat refine zR ?_
 refine zN ?_
 refine goOn (D++[tt+da*2^s%4294967296],da*2^s/2^32) (by simp;omega) ⟨rfl,rfl,rfl,by show Value.int .i64 _=Value.int .i64 _;simp,trivial⟩ ⟨rfl,rfl,fun b hb=>(zh zo).trans (hx1 b hb),⟨e,(ze _ _ _).trans (by show some (BF.row (u32s (D++[_]++[_]++List.replicate m 0)) e)=some (BF.row (u32s (D++[_]++[_]++List.replicate (A.length-(D++[_]).length) 0)) e);rw [List.length_append,List.length_singleton,show A.length-(D.length+1)=m from zo])⟩,by simp;omega,tn dD (zgz zo htt),by show da*2^s/2^32<2^s;exact eK hda',?_⟩
 show dv 4294967296 (D++[_])+_*4294967296^(D++[_]).length=dv 4294967296 (A.take (D++[_]).length)*2^s
 simp only [List.length_append,List.length_singleton]
 have:=rC (B:=4294967296) (P:=4294967296^D.length) (V:=dv 4294967296 D) (V':=dv 4294967296 (D++[tt+da*2^s%4294967296])) (c:=tt) (p:=da*2^s) (by rw [wK,Nat.mul_comm]) (c':=da*2^s/2^32) zo
 rw [Nat.pow_succ (n:=4294967296),this,zQ hda,Nat.add_mul,hV,Nat.mul_right_comm,Nat.mul_comm (4294967296^D.length)]
end
end Go.Proofs.YtlmbghgklnmlkaaGreatDoor
namespace Go.Proofs.YtlmbghgklnmlkaaGreatDoor
section
variable {B P v1 v2 vr w2 wr top h r:Nat}
theorem qY {a b c P:Nat}(h1:a*P≤b)(h2:b<c*P):a<c:=by
 apply Classical.byContradiction
 intro hn
 have:c*P≤a*P:=Nat.mul_le_mul_right P zo
 omega
theorem ql (hv:0<v1)(hw2:w2<B)(hwr:wr<P):((top*B+w2)*P+wr)/((v1*B+v2)*P+vr)≤top/v1:=by
 generalize hQ:((top*B+w2)*P+wr)/((v1*B+v2)*P+vr)=Q
 have h1:Q*((v1*B+v2)*P+vr)≤(top*B+w2)*P+wr:=by rw [←hQ];exact Nat.div_mul_le_self _ _
 rw [Nat.le_div_iff_mul_le hv]
 have h2:(Q*v1)*(B*P)≤Q*((v1*B+v2)*P+vr):=by
  rw [Nat.mul_assoc]
  apply Nat.mul_le_mul_left
  rw [←Nat.mul_assoc,Nat.add_mul]
  omega
 have h3:(top*B+w2)*P+wr<(top+1)*(B*P):=by
  have:(top*B+w2+1)*P≤(top*B+B)*P:=Nat.mul_le_mul_right _ zo
  rw [Nat.add_mul _ 1,Nat.one_mul] at this
  rw [←Nat.mul_assoc,Nat.add_mul top,Nat.one_mul]
  omega
 have:=qY (Nat.le_trans h2 h1) h3
 omega
theorem ni (hw2:w2<B)(hwr:wr<P)(ht:h*v1+r=top)(hc:r*B+w2<h*v2):((top*B+w2)*P+wr)/((v1*B+v2)*P+vr)<h:=by
 generalize hQ:((top*B+w2)*P+wr)/((v1*B+v2)*P+vr)=Q
 have h1:Q*((v1*B+v2)*P+vr)≤(top*B+w2)*P+wr:=by rw [←hQ];exact Nat.div_mul_le_self _ _
 apply Classical.byContradiction
 intro hn
 have h2:(h*(v1*B+v2))*P≤Q*((v1*B+v2)*P+vr):=by
  have h3:h*((v1*B+v2)*P)≤Q*((v1*B+v2)*P+vr):=Nat.mul_le_mul zo zo
  rw [Nat.mul_assoc];exact h3
 have h3:(top*B+w2)*P+wr<(top*B+w2+1)*P:=by rw [Nat.add_mul _ 1,Nat.one_mul];omega
 have h4:=qY (Nat.le_trans h2 h1) h3
 rw [←ht,Nat.mul_add,Nat.add_mul] at h4
 have h5:h*(v1*B)=h*v1*B:=by rw [Nat.mul_assoc]
 omega
theorem cg (hv:0<v1)(hB:0<B)(hvr:vr<P)(ht:h*v1+r=top)(hc:h*v2≤r*B+w2)(hh:h<B):h≤((top*B+w2)*P+wr)/((v1*B+v2)*P+vr)+1:=by
 have hVp:0<(v1*B+v2)*P+vr:=by
  have:0<v1*B:=Nat.mul_pos hv hB
  have:0<(v1*B+v2)*P:=Nat.mul_pos zo zo
  omega
 have h1:(h*(v1*B+v2))*P≤(top*B+w2)*P:=by
  apply Nat.mul_le_mul_right
  rw [←ht,Nat.mul_add,Nat.add_mul]
  have h5:h*(v1*B)=h*v1*B:=by rw [Nat.mul_assoc]
  omega
 have h2:h*vr≤B*P:=Nat.mul_le_mul zo zo
 have h3:B*P≤(v1*B+v2)*P:=Nat.mul_le_mul_right _ (by
  have:1*B≤v1*B:=Nat.mul_le_mul_right _ hv
  omega)
 have h4:h*((v1*B+v2)*P+vr)≤((top*B+w2)*P+wr)+((v1*B+v2)*P+vr):=by
  rw [Nat.mul_add,←Nat.mul_assoc]
  omega
 have h5:h≤(((top*B+w2)*P+wr)+((v1*B+v2)*P+vr))/((v1*B+v2)*P+vr):=by
  rw [Nat.le_div_iff_mul_le hVp]
  exact h4
 rw [Nat.add_div_right _ hVp] at h5
 exact h5
theorem zc6 (hvr:vr<P)(hv2:v2<B)(hW:(top*B+w2)*P+wr<B*((v1*B+v2)*P+vr)):top≤v1*B+v2:=by
 have h1:top*(B*P)≤(top*B+w2)*P+wr:=by
  rw [←Nat.mul_assoc,Nat.add_mul]
  omega
 have h2:B*((v1*B+v2)*P+vr)≤(v1*B+v2+1)*(B*P):=by
  rw [Nat.mul_left_comm]
  apply Nat.mul_le_mul_left
  rw [Nat.add_mul _ 1,Nat.one_mul]
  omega
 have:=qY h1 (Nat.lt_of_lt_of_le hW h2)
 omega
end
theorem bf {B:Nat}{l:List Nat}{m x y:Nat}(hl:l.length=m+2)(hx:l[m+1]?=some x)(hy:l[m]?=some y):dv B l=(x*B+y)*B^m+dv B (l.take m):=by
 have h1:=zQ (B:=B) hx
 have h2:=zQ (B:=B) hy
 rw [List.take_of_length_le zo] at h1
 rw [h1,h2,Nat.add_mul,Nat.pow_succ,Nat.mul_comm (B^m) y,Nat.mul_assoc x B,Nat.mul_comm B,Nat.mul_comm x]
 omega
theorem iA {B:Nat}{l:List Nat}{m x y z:Nat}(hl:l.length=m+3)(hx:l[m+2]?=some x)(hy:l[m+1]?=some y)(hz:l[m]?=some z):dv B l=((x*B+y)*B+z)*B^m+dv B (l.take m):=by
 have h1:=zQ (B:=B) hx
 rw [List.take_of_length_le zo] at h1
 have h2:=bf (B:=B) (l:=l.take (m+2)) (m:=m) (x:=y) (y:=z) (by rw [List.length_take];omega) (by rw [List.getElem?_take_of_lt zo];exact hy) (by rw [List.getElem?_take_of_lt zo];exact hz)
 rw [List.take_take,Nat.min_eq_left zo] at h2
 rw [h1,h2,Nat.add_mul,Nat.add_mul,Nat.add_mul,Nat.add_mul,Nat.pow_add,show B^2=B*B from by rw [Nat.pow_succ,Nat.pow_one]]
 have e:B^m*(B*B)*x=x*B*B*B^m:=by
  rw [Nat.mul_comm (B^m*(B*B)) x,Nat.mul_comm (B^m),←Nat.mul_assoc,←Nat.mul_assoc]
 rw [e]
 omega
theorem zff {B:Nat}:∀{l:List Nat},0<B→dv B l=0→∀(i x:Nat),l[i]?=some x→x=0:=by
 intro l
 induction l with
 |nil=>intro _ _ i x h;simp at h
 |cons d l ih=>
  intro hB h i x hx
  simp only [dv] at h
  have h1:d=0:=zo
  have h2:B*dv B l=0:=zo
  rcases Nat.mul_eq_zero.1 h2 with h3|h3
  ·omega
  cases i with
  |zero=>simp at hx;omega
  |succ i=>exact ih hB h3 i x (by simpa using hx)
theorem kZ {B:Nat}{l:List Nat}{n:Nat}(hB:0<B)(h:dv B l<B^n):dv B (l.drop n)=0∧dv B (l.take n)=dv B l:=by
 have e:dv B l=dv B (l.take n)+B^(l.take n).length*dv B (l.drop n):=by rw [←xH,List.take_append_drop]
 by_cases hl:n≤l.length
 ·rw [List.length_take,Nat.min_eq_left hl] at e
  have:dv B (l.drop n)=0:=by
   apply Classical.byContradiction
   intro hne
   have:B^n*1≤B^n*dv B (l.drop n):=Nat.mul_le_mul_left _ zo
   omega
  rw [this,Nat.mul_zero] at e
  exact ⟨this,zo⟩
 rw [List.drop_of_length_le zo,List.take_of_length_le zo]
 exact ⟨rfl,rfl⟩
end Go.Proofs.YtlmbghgklnmlkaaGreatDoor
namespace Go.Proofs.YtlmbghgklnmlkaaGreatDoor
open Go Go.GL
variable {top v1 v2 id m n n':Nat}{E:Env}{ty:TypeId}{h h':HF}{v:Value}{W:List Nat}{o:Oper}{x:Operand}{ops:Array Oper}
def subC:List Nat→Code→Option Code
 |[],c=>some c
 |0::p,.seq a _=>subC p a
 |1::p,.seq _ b=>subC p b
 |0::p,.cond _ a _=>subC p a
 |1::p,.cond _ _ b=>subC p b
 |0::p,.block _ b=>subC p b
 |0::p,.loop b=>subC p b
 |0::p,.scope b=>subC p b
 |_,_=>none
def tw (f:Func)(p:List Nat):Option Code:=match f.body with|some b=>subC p b|none=>none
section
variable {K n n1:Nat}{h:HF}{t:TF}{w:List Nat}{va ua:Option Addr}{vc uc:Nat}{V U:List Nat}{j m:Nat}{sv qv:Value}
set_option maxRecDepth 100000
theorem zfo (hV:Sl h n1 1 (.slice va V.length vc) (u32s V))(hU:Sl h n1 1 (.slice ua U.length uc) (u32s U))(hVl:V.length=m+2)(hl:U.length<10000000000∧j+m+2<U.length){v1 v2 top w2 g:Nat}(hv1:V[m+1]?=some v1)(hv2:V[m]?=some v2)(hw2:U[j+m]?=some w2)
  (b1:2147483648≤v1∧v1<4294967296)(b2:v2<4294967296)(b3:w2<4294967296)(htop:top≤v1*4294967296+v2)(hg1:g≤top/v1)(hg2:g<4294967296)(hg3:∀hh rr:Nat,hh*v1+rr=top→rr*4294967296+w2<hh*v2→g<hh)
  {c:Code}(hc:tw Tryz.f190 [1,1,1,1,1,1,1,1,1,1,0,1,0,0,1,0,0,1,1,1,0]=some c){Q:Ex→SV→Prop}
  (hL:wz t [(8,sv),(9,.slice va V.length vc),(10,.slice ua U.length uc),(11,.int .i64 (V.length:Int)),(13,qv),(14,.int .i64 (j:Int)),(16,.int .u64 ((top/v1:Nat):Int)),(17,.int .u64 ((top%v1:Nat):Int))])
  (hQ:∀(hh rr:Nat) (t':TF),wz t' [(8,sv),(9,.slice va V.length vc),(10,.slice ua U.length uc),(11,.int .i64 (V.length:Int)),(13,qv),(14,.int .i64 (j:Int)),(16,.int .u64 (hh:Int))]→hh*v1+rr=top→hh<4294967296→hh*v2≤rr*4294967296+w2→g≤hh→Q .normal ⟨t',h,n1,w⟩):EC (ctx K n (Tryz.f190).ntmps) c ⟨t,h,n1,w⟩ Q:=by
 obtain rfl:=Option.some.inj (hc.symm.trans (rfl:tw Tryz.f190 [1,1,1,1,1,1,1,1,1,1,0,1,0,0,1,0,0,1,1,1,0]=some _))
 clear hc
 have hlt:top%v1<v1:=Nat.mod_lt _ zo
 refine zN ?_
 refine zV (α:=Nat×Nat) (fun z=>[(8,sv),(9,.slice va V.length vc),(10,.slice ua U.length uc),(11,.int .i64 (V.length:Int)),(13,qv),(14,.int .i64 (j:Int)),(16,.int .u64 (z.1:Int)),(17,.int .u64 (z.2:Int))])
  (fun z h' n' w'=>h=h'∧n1=n'∧w=w'∧z.1*v1+z.2=top∧g≤z.1∧z.2<4294967296) (fun z=>z.1) (top/v1,top%v1) hL ⟨rfl,rfl,rfl,by rw [Nat.mul_comm];exact Nat.div_add_mod _ _,hg1,by show _%_<_;omega⟩ (by show top/v1<LL;have:top/v1≤top:=Nat.div_le_self _ _;unfold LL;omega) ?_
 rintro ⟨hh,rr⟩ t2 _ _ _ ⟨rfl,rfl,rfl,hsum,hgh,hrr⟩
 simp only at hsum hgh hrr
 have hhb:hh<18446744073709551616:=by
  have h1:hh*2147483648≤hh*v1:=Nat.mul_le_mul_left _ b1.1
  omega
 have hstep:g<hh→(hh-1)*v1+(rr+v1)=top:=fun hlt=>by
  obtain ⟨x,rfl⟩:∃x,hh=x+1:=⟨hh-1,zo⟩
  rw [Nat.add_mul,Nat.one_mul] at hsum
  simp only [Nat.add_sub_cancel]
  omega
 have hbrk:g<hh→4294967296≤rr+v1→hh-1<4294967296∧(hh-1)*v2≤(rr+v1)*4294967296+w2:=fun hlt hge=>by
  have h1:=hstep hlt
  have h2:hh-1<4294967296:=by
   apply Classical.byContradiction
   intro hn
   have:4294967296*v1≤(hh-1)*v1:=Nat.mul_le_mul_right _ zo
   omega
  refine ⟨h2,?_⟩
  have h3:(hh-1)*v2≤4294967296*4294967296:=Nat.mul_le_mul zo zo
  have h4:4294967296*4294967296≤(rr+v1)*4294967296:=Nat.mul_le_mul_right _ hge
  omega
 refine zN ?_
 rw [xf rfl]
 by_cases hB:4294967296≤hh
 ·repeat refine zU ?_
  refine zN ?_
  rw [zc rfl]
  refine zN ?_
  repeat refine zU ?_
  refine zN ?_
  repeat refine zR ?_
  refine z6 (j:=m+1) R7 hV ⟨rfl,zo⟩ hv1 (fun _=>rfl) R4 fun _=>?_
  repeat refine zU ?_
  refine zN ?_
  by_cases hge:4294967296≤rr+v1
  ·repeat refine zR ?_
   refine zN ?_
   rw [zc rfl]
   refine zN ?_
   have hb:=hbrk zo hge
   exact hQ (hh-1) (rr+v1) _ ⟨rfl,rfl,rfl,rfl,rfl,rfl,rfl,trivial⟩ (hstep zo) hb.1 hb.2 zo
  repeat refine zR ?_
  refine zN ?_
  rw [za rfl]
  refine zN ?_
  exact goOn (hh-1,rr+v1) (by show hh-1<hh;omega) ⟨rfl,rfl,rfl,rfl,rfl,rfl,rfl,rfl,trivial⟩ ⟨rfl,rfl,rfl,hstep zo,by show g≤hh-1;omega,by show rr+v1<_;omega⟩
 have hpr:hh*v2≤4294967295*4294967295:=Nat.mul_le_mul zo zo
 repeat refine zU ?_
 refine z6 (j:=m) R7 hV ⟨rfl,zo⟩ hv2 (fun _=>rfl) R4 fun _=>?_
 refine yQ R7 zo ?_
 refine yK (a:=hh) (b:=v2) R6 zo ?_
 refine zM ?_
 refine yz (a:=rr) (s:=32) R6 zo ?_
 repeat refine zR ?_
 refine z6 (j:=j+m) R7 hU ⟨rfl,zo⟩ hw2 (fun _=>rfl) R4 fun _=>?_
 refine yQ R7 zo ?_
 refine xp (a:=rr*2^32%18446744073709551616) (b:=w2) R6 zo ?_
 rw [eN rr w2 hrr b3]
 by_cases htest:rr*4294967296+w2<hh*v2
 ·have hlt:=hg3 hh rr hsum htest
  refine qK R6 (by exact_mod_cast htest) ?_
  repeat refine zR ?_
  refine zN ?_
  rw [zc rfl]
  refine zN ?_
  repeat refine zU ?_
  refine zN ?_
  repeat refine zR ?_
  refine z6 (j:=m+1) R7 hV ⟨rfl,zo⟩ hv1 (fun _=>rfl) R4 fun _=>?_
  repeat refine zU ?_
  refine zN ?_
  by_cases hge:4294967296≤rr+v1
  ·repeat refine zR ?_
   refine zN ?_
   rw [zc rfl]
   refine zN ?_
   have hb:=hbrk hlt hge
   exact hQ (hh-1) (rr+v1) _ ⟨rfl,rfl,rfl,rfl,rfl,rfl,rfl,trivial⟩ (hstep hlt) hb.1 hb.2 zo
  repeat refine zR ?_
  refine zN ?_
  rw [za rfl]
  refine zN ?_
  exact goOn (hh-1,rr+v1) (by show hh-1<hh;omega) ⟨rfl,rfl,rfl,rfl,rfl,rfl,rfl,rfl,trivial⟩ ⟨rfl,rfl,rfl,hstep hlt,by show g≤hh-1;omega,by show rr+v1<_;omega⟩
 refine pW R6 zo ?_
 repeat refine zR ?_
 refine zN ?_
 rw [za rfl]
 refine zN ?_
 exact hQ hh rr _ ⟨rfl,rfl,rfl,rfl,rfl,rfl,rfl,trivial⟩ hsum zo zo hgh
end
theorem zc7 {w q r:Nat}(hsum:q*v1+r=top)(hv:0<v1*4294967296+v2)(hg:(top*4294967296+w)/(v1*4294967296+v2)≤q)(hc:q*v2≤r*4294967296+w):q=(top*4294967296+w)/(v1*4294967296+v2):=by
 apply Nat.le_antisymm _ hg
 rw [Nat.le_div_iff_mul_le hv,←hsum]
 have e:q*(v1*4294967296+v2)=q*v1*4294967296+q*v2:=by rw [Nat.mul_add,Nat.mul_assoc]
 rw [e,Nat.add_mul]
 omega
section
variable {K n n1:Nat}{h:HF}{t:TF}{w:List Nat}{va vb vc vd ve:Value}
set_option maxRecDepth 100000
theorem fh {w2:Nat}(b1:2147483648≤v1∧v1<4294967296)(b2:v2<4294967296)(b3:w2<4294967296)(htop:top<v1*4294967296+v2)
  {c:Code}(hc:tw Tryz.f208 [1,1,1,1,1,1,1,1,1,1,1,1,1,1,0]=some c){Q:Ex→SV→Prop}
  (hL:wz t [(2,va),(8,vb),(11,vc),(14,vd),(9,.int .u64 (v1:Int)),(10,.int .u64 (v2:Int)),(13,.int .u64 (w2:Int)),(15,.int .u64 ((top/v1:Nat):Int)),(16,.int .u64 ((top%v1:Nat):Int))])
  (hQ:∀(t':TF) (g:Nat),g=(top*4294967296+w2)/(v1*4294967296+v2)→wz t' [(2,va),(8,vb),(11,vc),(14,vd),(9,.int .u64 (v1:Int)),(10,.int .u64 (v2:Int)),(13,.int .u64 (w2:Int)),(15,.int .u64 (g:Int))]→Q .normal ⟨t',h,n1,w⟩):EC (ctx K n (Tryz.f208).ntmps) c ⟨t,h,n1,w⟩ Q:=by
 obtain rfl:=Option.some.inj (hc.symm.trans (rfl:tw Tryz.f208 [1,1,1,1,1,1,1,1,1,1,1,1,1,1,0]=some _))
 clear hc
 have hlt:top%v1<v1:=Nat.mod_lt _ zo
 have hg1:=ql (B:=4294967296) (P:=1) (v1:=v1) (v2:=v2) (vr:=0) (w2:=w2) (wr:=0) (top:=top) zo b3 zo
 have hg3:∀hh rr:Nat,hh*v1+rr=top→rr*4294967296+w2<hh*v2→(top*4294967296+w2)/(v1*4294967296+v2)<hh:=fun hh rr e1 e2=>by
  have:=ni (B:=4294967296) (P:=1) (v1:=v1) (v2:=v2) (vr:=0) (w2:=w2) (wr:=0) (top:=top) b3 zo e1 e2
  simpa using this
 simp only [Nat.mul_one,Nat.add_zero] at hg1
 have hg2:(top*4294967296+w2)/(v1*4294967296+v2)<4294967296:=by
  rw [Nat.div_lt_iff_lt_mul zo]
  have:(top+1)*4294967296≤(v1*4294967296+v2)*4294967296:=Nat.mul_le_mul_right _ htop
  rw [Nat.mul_comm 4294967296]
  omega
 generalize hgg:(top*4294967296+w2)/(v1*4294967296+v2)=g at hg1 hg2 hg3
 have hend:∀q r:Nat,q*v1+r=top→g≤q→q*v2≤r*4294967296+w2→q=g:=fun q r e1 e2 e3=>by
  rw [←hgg] at e2 ⊢
  exact zc7 e1 zo e2 e3
 refine zN ?_
 refine zV (α:=Nat×Nat) (fun z=>[(2,va),(8,vb),(11,vc),(14,vd),(9,.int .u64 (v1:Int)),(10,.int .u64 (v2:Int)),(13,.int .u64 (w2:Int)),(15,.int .u64 (z.1:Int)),(16,.int .u64 (z.2:Int))])
  (fun z h' n' w'=>h=h'∧n1=n'∧w=w'∧z.1*v1+z.2=top∧g≤z.1∧z.2<4294967296) (fun z=>z.1) (top/v1,top%v1) hL ⟨rfl,rfl,rfl,by rw [Nat.mul_comm];exact Nat.div_add_mod _ _,hg1,by show _%_<_;omega⟩ (by show top/v1<LL;have:top/v1≤top:=Nat.div_le_self _ _;unfold LL;omega) ?_
 rintro ⟨hh,rr⟩ t2 _ _ _ ⟨rfl,rfl,rfl,hsum,hgh,hrr⟩
 simp only at hsum hgh hrr
 have hhb:hh<18446744073709551616:=by
  have h1:hh*2147483648≤hh*v1:=Nat.mul_le_mul_left _ b1.1
  omega
 have hstep:g<hh→(hh-1)*v1+(rr+v1)=top:=fun hlt=>by
  obtain ⟨x,rfl⟩:∃x,hh=x+1:=⟨hh-1,zo⟩
  rw [Nat.add_mul,Nat.one_mul] at hsum
  simp only [Nat.add_sub_cancel]
  omega
 have hbrk:g<hh→4294967296≤rr+v1→hh-1=g:=fun hlt hge=>by
  have h1:=hstep hlt
  have h2:hh-1<4294967296:=by
   apply Classical.byContradiction
   intro hn
   have:4294967296*v1≤(hh-1)*v1:=Nat.mul_le_mul_right _ zo
   omega
  refine hend _ _ h1 zo ?_
  have h3:(hh-1)*v2≤4294967296*4294967296:=Nat.mul_le_mul zo zo
  have h4:4294967296*4294967296≤(rr+v1)*4294967296:=Nat.mul_le_mul_right _ hge
  omega
 refine zN ?_
 by_cases hB:4294967296≤hh
 ·repeat refine zW ?_
  refine zN ?_
  rw [zc rfl]
  refine zN ?_
  repeat refine zW ?_
  refine zN ?_
  repeat refine zW ?_
  refine zN ?_
  by_cases hge:4294967296≤rr+v1
  ·repeat refine zW ?_
   refine zN ?_
   rw [zc rfl]
   refine zN ?_
   have hb:=hbrk zo hge
   exact hQ _ g hgg.symm ⟨rfl,rfl,rfl,rfl,rfl,rfl,rfl,by show Value.int .u64 _=Value.int .u64 _;rw [hb],trivial⟩
  repeat refine zW ?_
  refine zN ?_
  rw [za rfl]
  refine zN ?_
  exact goOn (hh-1,rr+v1) (by show hh-1<hh;omega) ⟨rfl,rfl,rfl,rfl,rfl,rfl,rfl,rfl,rfl,trivial⟩ ⟨rfl,rfl,rfl,hstep zo,by show g≤hh-1;omega,by show rr+v1<_;omega⟩
 have hpr:hh*v2≤4294967295*4294967295:=Nat.mul_le_mul zo zo
 by_cases htest:4294967296*rr+w2<hh*v2
 ·have hlt:=hg3 hh rr hsum zo
  repeat refine zW ?_
  refine zN ?_
  first
   |rw [zc rfl]
   |rw [zc (by show Value.bool (decide _)=_;rw [decide_eq_true (Int.ofNat_lt.2 htest)])]
  refine zN ?_
  repeat refine zW ?_
  refine zN ?_
  repeat refine zW ?_
  refine zN ?_
  by_cases hge:4294967296≤rr+v1
  ·repeat refine zW ?_
   refine zN ?_
   rw [zc rfl]
   refine zN ?_
   have hb:=hbrk hlt hge
   exact hQ _ g hgg.symm ⟨rfl,rfl,rfl,rfl,rfl,rfl,rfl,by show Value.int .u64 _=Value.int .u64 _;rw [hb],trivial⟩
  repeat refine zW ?_
  refine zN ?_
  rw [za rfl]
  refine zN ?_
  exact goOn (hh-1,rr+v1) (by show hh-1<hh;omega) ⟨rfl,rfl,rfl,rfl,rfl,rfl,rfl,rfl,rfl,trivial⟩ ⟨rfl,rfl,rfl,hstep hlt,by show g≤hh-1;omega,by show rr+v1<_;omega⟩
 repeat refine zW ?_
 refine zN ?_
 first
  |rw [za rfl]
  |rw [za (by show Value.bool (decide _)=_;rw [decide_eq_false (fun h=>htest (Int.ofNat_lt.1 h))])]
 refine zN ?_
 have hb:=hend hh rr hsum hgh zo
 exact hQ _ g hgg.symm ⟨rfl,rfl,rfl,rfl,rfl,rfl,rfl,by show Value.int .u64 _=Value.int .u64 _;rw [hb],trivial⟩
theorem fg {w2:Nat}(b1:2147483648≤v1∧v1<4294967296)(b2:v2<4294967296)(b3:w2<4294967296)(htop:top<v1*4294967296+v2)
  {c:Code}(hc:tw Tryz.f208 [1,1,1,1,1,1,1,1,1,1,1,1,1,1,1,1,1,1,0]=some c){Q:Ex→SV→Prop}
  (hL:wz t [(2,va),(8,vb),(15,vc),(17,vd),(9,.int .u64 (v1:Int)),(10,.int .u64 (v2:Int)),(14,.int .u64 (w2:Int)),(18,.int .u64 ((top/v1:Nat):Int)),(16,.int .u64 ((top%v1:Nat):Int))])
  (hQ:∀(t':TF) (g:Nat),g=(top*4294967296+w2)/(v1*4294967296+v2)→wz t' [(2,va),(8,vb),(15,vc),(17,vd),(9,.int .u64 (v1:Int)),(10,.int .u64 (v2:Int)),(14,.int .u64 (w2:Int)),(18,.int .u64 (g:Int))]→Q .normal ⟨t',h,n1,w⟩):EC (ctx K n (Tryz.f208).ntmps) c ⟨t,h,n1,w⟩ Q:=by
 obtain rfl:=Option.some.inj (hc.symm.trans (rfl:tw Tryz.f208 [1,1,1,1,1,1,1,1,1,1,1,1,1,1,1,1,1,1,0]=some _))
 clear hc
 have hlt:top%v1<v1:=Nat.mod_lt _ zo
 have hg1:=ql (B:=4294967296) (P:=1) (v1:=v1) (v2:=v2) (vr:=0) (w2:=w2) (wr:=0) (top:=top) zo b3 zo
 have hg3:∀hh rr:Nat,hh*v1+rr=top→rr*4294967296+w2<hh*v2→(top*4294967296+w2)/(v1*4294967296+v2)<hh:=fun hh rr e1 e2=>by
  have:=ni (B:=4294967296) (P:=1) (v1:=v1) (v2:=v2) (vr:=0) (w2:=w2) (wr:=0) (top:=top) b3 zo e1 e2
  simpa using this
 simp only [Nat.mul_one,Nat.add_zero] at hg1
 have hg2:(top*4294967296+w2)/(v1*4294967296+v2)<4294967296:=by
  rw [Nat.div_lt_iff_lt_mul zo]
  have:(top+1)*4294967296≤(v1*4294967296+v2)*4294967296:=Nat.mul_le_mul_right _ htop
  rw [Nat.mul_comm 4294967296]
  omega
 generalize hgg:(top*4294967296+w2)/(v1*4294967296+v2)=g at hg1 hg2 hg3
 have hend:∀q r:Nat,q*v1+r=top→g≤q→q*v2≤r*4294967296+w2→q=g:=fun q r e1 e2 e3=>by
  rw [←hgg] at e2 ⊢
  exact zc7 e1 zo e2 e3
 refine zN ?_
 refine zV (α:=Nat×Nat) (fun z=>[(2,va),(8,vb),(15,vc),(17,vd),(9,.int .u64 (v1:Int)),(10,.int .u64 (v2:Int)),(14,.int .u64 (w2:Int)),(18,.int .u64 (z.1:Int)),(16,.int .u64 (z.2:Int))])
  (fun z h' n' w'=>h=h'∧n1=n'∧w=w'∧z.1*v1+z.2=top∧g≤z.1∧z.2<4294967296) (fun z=>z.1) (top/v1,top%v1) hL ⟨rfl,rfl,rfl,by rw [Nat.mul_comm];exact Nat.div_add_mod _ _,hg1,by show _%_<_;omega⟩ (by show top/v1<LL;have:top/v1≤top:=Nat.div_le_self _ _;unfold LL;omega) ?_
 rintro ⟨hh,rr⟩ t2 _ _ _ ⟨rfl,rfl,rfl,hsum,hgh,hrr⟩
 simp only at hsum hgh hrr
 have hhb:hh<18446744073709551616:=by
  have h1:hh*2147483648≤hh*v1:=Nat.mul_le_mul_left _ b1.1
  omega
 have hstep:g<hh→(hh-1)*v1+(rr+v1)=top:=fun hlt=>by
  obtain ⟨x,rfl⟩:∃x,hh=x+1:=⟨hh-1,zo⟩
  rw [Nat.add_mul,Nat.one_mul] at hsum
  simp only [Nat.add_sub_cancel]
  omega
 have hbrk:g<hh→4294967296≤rr+v1→hh-1=g:=fun hlt hge=>by
  have h1:=hstep hlt
  have h2:hh-1<4294967296:=by
   apply Classical.byContradiction
   intro hn
   have:4294967296*v1≤(hh-1)*v1:=Nat.mul_le_mul_right _ zo
   omega
  refine hend _ _ h1 zo ?_
  have h3:(hh-1)*v2≤4294967296*4294967296:=Nat.mul_le_mul zo zo
  have h4:4294967296*4294967296≤(rr+v1)*4294967296:=Nat.mul_le_mul_right _ hge
  omega
 refine zN ?_
 by_cases hB:4294967296≤hh
 ·repeat refine zW ?_
  refine zN ?_
  rw [zc rfl]
  refine zN ?_
  repeat refine zW ?_
  refine zN ?_
  repeat refine zW ?_
  refine zN ?_
  by_cases hge:4294967296≤rr+v1
  ·repeat refine zW ?_
   refine zN ?_
   rw [zc rfl]
   refine zN ?_
   have hb:=hbrk zo hge
   exact hQ _ g hgg.symm ⟨rfl,rfl,rfl,rfl,rfl,rfl,rfl,by show Value.int .u64 _=Value.int .u64 _;rw [hb],trivial⟩
  repeat refine zW ?_
  refine zN ?_
  rw [za rfl]
  refine zN ?_
  exact goOn (hh-1,rr+v1) (by show hh-1<hh;omega) ⟨rfl,rfl,rfl,rfl,rfl,rfl,rfl,rfl,rfl,trivial⟩ ⟨rfl,rfl,rfl,hstep zo,by show g≤hh-1;omega,by show rr+v1<_;omega⟩
 have hpr:hh*v2≤4294967295*4294967295:=Nat.mul_le_mul zo zo
 by_cases htest:4294967296*rr+w2<hh*v2
 ·have hlt:=hg3 hh rr hsum zo
  repeat refine zW ?_
  refine zN ?_
  first
   |rw [zc rfl]
   |rw [zc (by show Value.bool (decide _)=_;rw [decide_eq_true (Int.ofNat_lt.2 htest)])]
  refine zN ?_
  repeat refine zW ?_
  refine zN ?_
  repeat refine zW ?_
  refine zN ?_
  by_cases hge:4294967296≤rr+v1
  ·repeat refine zW ?_
   refine zN ?_
   rw [zc rfl]
   refine zN ?_
   have hb:=hbrk hlt hge
   exact hQ _ g hgg.symm ⟨rfl,rfl,rfl,rfl,rfl,rfl,rfl,by show Value.int .u64 _=Value.int .u64 _;rw [hb],trivial⟩
  repeat refine zW ?_
  refine zN ?_
  rw [za rfl]
  refine zN ?_
  exact goOn (hh-1,rr+v1) (by show hh-1<hh;omega) ⟨rfl,rfl,rfl,rfl,rfl,rfl,rfl,rfl,rfl,trivial⟩ ⟨rfl,rfl,rfl,hstep hlt,by show g≤hh-1;omega,by show rr+v1<_;omega⟩
 repeat refine zW ?_
 refine zN ?_
 first
  |rw [za rfl]
  |rw [za (by show Value.bool (decide _)=_;rw [decide_eq_false (fun h=>htest (Int.ofNat_lt.1 h))])]
 refine zN ?_
 have hb:=hend hh rr hsum hgh zo
 exact hQ _ g hgg.symm ⟨rfl,rfl,rfl,rfl,rfl,rfl,rfl,by show Value.int .u64 _=Value.int .u64 _;rw [hb],trivial⟩
end
theorem zd3 {U0 U1 U2 H hv u nd c br pl c' br' P B:Nat}(f1:U2+u*P=U1+nd*P)(f2:U1+H=U0+(c+br)*P)(f3:nd+(pl+br)=u+br'*B)(f4:B*c'+pl=hv+c):U2+(H+hv*P)=U0+(c'+br')*(P*B):=by
 have f3':(nd+(pl+br))*P=(u+br'*B)*P:=by rw [f3]
 have f4':(B*c'+pl)*P=(hv+c)*P:=by rw [f4]
 rw [Nat.add_mul,Nat.add_mul,Nat.add_mul u] at f3'
 rw [Nat.add_mul,Nat.add_mul hv] at f4'
 rw [Nat.add_mul c br] at f2
 rw [Nat.add_mul c' br',Nat.mul_comm P B,←Nat.mul_assoc c' B,←Nat.mul_assoc br' B,Nat.mul_comm c' B]
 omega
def But (b:Nat)(h h':HF):Prop:=∀x,x≠b→h' x=h x
theorem Sl.but {h h':HF}{n n' sz b bv o len cap:Nat}{c:List Value}(s:Sl h n sz (.slice (some ⟨bv,o,none⟩) len cap) c)(hb:But b h h')(hne:bv≠b)(hn:n≤n'):Sl h' n' sz (.slice (some ⟨bv,o,none⟩) len cap) c:=
 s.keep (fun a l cc e=>by injection e with e1;injection e1 with e1;subst e1;exact hb _ hne) hn
section
variable {K n n1:Nat}{h:HF}{t:TF}{w:List Nat}{bv bu vc:Nat}{e:TypeId}{V U:List Nat}{j m hh:Nat}{sv qv:Value}
set_option maxRecDepth 100000
theorem zfm (hV:Sl h n1 1 (.slice (some ⟨bv,0,none⟩) V.length vc) (u32s V))(hne:bv≠bu)(hnew:3*n≤bu∧bu<3*n1)(hrow:h bu=some (.row (u32s U) e))(dV:Dig V)(dU:Dig U)(hl:U.length<10000000000∧j+V.length<U.length)(hhB:hh<4294967296)
  {c:Code}(hc:tw Tryz.f190 [1,1,1,1,1,1,1,1,1,1,0,1,0,0,1,0,0,1,1,1,1,1,0,1]=some c){Q:Ex→SV→Prop}
  (hL:wz t [(8,sv),(9,.slice (some ⟨bv,0,none⟩) V.length vc),(10,.slice (some ⟨bu,0,none⟩) U.length U.length),(11,.int .i64 (V.length:Int)),(13,qv),(14,.int .i64 (j:Int)),(16,.int .u64 (hh:Int)),(18,.int .u64 (((0:Nat):Nat):Int)),(19,.int .u64 (((0:Nat):Nat):Int)),(20,.int .i64 (((0:Nat):Nat):Int))])
  (hQ:∀(c br:Nat) (U2:List Nat) (t':TF) (h':HF),wz t' [(8,sv),(9,.slice (some ⟨bv,0,none⟩) V.length vc),(10,.slice (some ⟨bu,0,none⟩) U.length U.length),(11,.int .i64 (V.length:Int)),(13,qv),(14,.int .i64 (j:Int)),(16,.int .u64 (hh:Int)),(18,.int .u64 (c:Int)),(19,.int .u64 (br:Int))]→But bu h h'→h' bu=some (.row (u32s U2) e)→Dig U2→U2.length=U.length→c<4294967296→br≤1→U2.drop (V.length+j)=U.drop (V.length+j)→dv 4294967296 U2+hh*dv 4294967296 V*4294967296^j=dv 4294967296 U+(c+br)*4294967296^(V.length+j)→Q .normal ⟨t',h',n1,w⟩):EC (ctx K n (Tryz.f190).ntmps) c ⟨t,h,n1,w⟩ Q:=by
 obtain rfl:=Option.some.inj (hc.symm.trans (rfl:tw Tryz.f190 [1,1,1,1,1,1,1,1,1,1,0,1,0,0,1,0,0,1,1,1,1,1,0,1]=some _))
 clear hc
 refine zN ?_
 refine zV (α:=Nat×Nat×Nat×List Nat) (fun z=>[(8,sv),(9,.slice (some ⟨bv,0,none⟩) V.length vc),(10,.slice (some ⟨bu,0,none⟩) U.length U.length),(11,.int .i64 (V.length:Int)),(13,qv),(14,.int .i64 (j:Int)),(16,.int .u64 (hh:Int)),(18,.int .u64 (z.2.1:Int)),(19,.int .u64 (z.2.2.1:Int)),(20,.int .i64 (z.1:Int))])
  (fun z h' n' w'=>n1=n'∧w=w'∧But bu h h'∧h' bu=some (.row (u32s z.2.2.2) e)∧z.1≤V.length∧Dig z.2.2.2∧z.2.2.2.length=U.length∧z.2.1<4294967296∧z.2.2.1≤1∧z.2.2.2.drop (z.1+j)=U.drop (z.1+j)∧dv 4294967296 z.2.2.2+hh*dv 4294967296 (V.take z.1)*4294967296^j=dv 4294967296 U+(z.2.1+z.2.2.1)*4294967296^(z.1+j)) (fun z=>V.length-z.1)
  (0,0,0,U) hL ⟨rfl,rfl,fun x _=>rfl,hrow,Nat.zero_le _,dU,rfl,by show 0<4294967296;decide,by show 0≤1;decide,rfl,by simp [dv]⟩ (by show V.length-0<LL;unfold LL;omega) ?_
 rintro ⟨i,c,br,U2⟩ t2 h2 _ _ ⟨rfl,rfl,hbut,hrow2,hi,dU2,hUl,hcB,hbr,hdr,hval⟩
 simp only at hrow2 hi dU2 hUl hcB hbr hdr hval
 refine zN ?_
 by_cases hiV:i=V.length
 ·subst hiV
  repeat refine zR ?_
  refine zN ?_
  rw [za rfl]
  refine zN ?_
  rw [List.take_length] at hval
  exact hQ c br U2 _ h2 ⟨rfl,rfl,rfl,rfl,rfl,rfl,rfl,rfl,rfl,trivial⟩ hbut hrow2 dU2 hUl hcB hbr hdr hval
 obtain ⟨v,hv⟩:∃x,V[i]?=some x:=⟨V[i]'zo,List.getElem?_eq_getElem zo⟩
 have hv':v<4294967296:=dV v (List.mem_of_getElem? hv)
 obtain ⟨u,hu⟩:∃x,U2[i+j]?=some x:=⟨U2[i+j]'zo,List.getElem?_eq_getElem zo⟩
 have hu':u<4294967296:=dU2 u (List.mem_of_getElem? hu)
 have hp:hh*v≤4294967295*4294967295:=Nat.mul_le_mul zo zo
 have hU2:Sl h2 n1 1 (.slice (some ⟨bu,0,none⟩) U.length U.length) (u32s U2):=Sl.own hrow2 hnew.2 hUl (Nat.le_refl _)
 have hV2:=hV.but hbut hne (Nat.le_refl _)
 repeat refine zR ?_
 refine zN ?_
 rw [zc rfl]
 refine zN ?_
 repeat refine zR ?_
 refine z6 R7 hV2 R2 hv (fun _=>rfl) R4 fun _=>?_
 refine yQ R7 zo ?_
 refine yK (a:=hh) (b:=v) R6 zo ?_
 generalize hpp:hh*v=pv at hp
 repeat refine zU ?_
 refine zN ?_
 refine zM ?_
 refine z7 (a:=pv+c) (s:=32) R6 zo ?_
 repeat refine zR ?_
 refine zN ?_
 repeat refine zR ?_
 refine z6 (j:=i+j) R7 hU2 ⟨rfl,zo⟩ hu (fun _=>rfl) R4 fun _=>?_
 refine yQ R7 zo ?_
 refine zM ?_
 refine vP (a:=pv+c) (b:=4294967295) R6 zo ?_
 rw [show (pv+c)&&& 4294967295=(pv+c)%4294967296 from Nat.and_two_pow_sub_one_eq_mod _ 32]
 obtain ⟨pl,hpl⟩:∃pl,pl=(pv+c)%4294967296:=⟨_,rfl⟩
 rw [←hpl]
 refine y8 (a:=u) (b:=pl) R6 zo ?_
 refine zM ?_
 refine y8 (a:=(u+18446744073709551616-pl)%18446744073709551616) (b:=br) R6 zo ?_
 obtain ⟨X,hX⟩:∃X,X=((u+18446744073709551616-pl)%18446744073709551616+18446744073709551616-br)%18446744073709551616:=⟨_,rfl⟩
 rw [←hX]
 have hXe:X%4294967296+(pl+br)=u+X/2^32%2*4294967296:=zo
 repeat refine zR ?_
 refine zN ?_
 repeat refine zR ?_
 refine yi R7 ?_
 refine y5 (j:=i+j) (v:=.int .u32 ((X%4294967296:Nat):Int)) R8 zo (by rw [ya];omega) hrow2 hnew.1 (fun _=>rfl) R3 (fun _=>rfl) rfl fun _=>?_
 rw [xk]
 refine zN ?_
 refine zM ?_
 refine z7 (a:=X) (s:=32) R6 zo ?_
 refine vP (a:=X/2^32) (b:=1) R6 zo ?_
 rw [Nat.and_one_is_mod]
 repeat refine zR ?_
 refine zN ?_
 repeat refine zR ?_
 refine zN ?_
 refine goOn (i+1,(pv+c)/2^32,X/2^32%2,U2.set (i+j) (X%4294967296)) (by show V.length-(i+1)<V.length-i;omega) ⟨rfl,rfl,rfl,rfl,rfl,rfl,rfl,rfl,rfl,by show Value.int .i64 _=Value.int .i64 _;congr 1,trivial⟩ ⟨rfl,rfl,fun x hx=>(zh hx).trans (hbut x hx),ze _ _ _,by show i+1≤V.length;omega,rp dU2 (Nat.mod_lt _ zo),by show (U2.set _ _).length=_;rw [List.length_set];exact hUl,by show _/_<_;omega,by show _%_≤1;omega,?_,?_⟩
 ·show (U2.set (i+j) _).drop (i+1+j)=U.drop (i+1+j)
  rw [List.drop_set_of_lt zo,show i+1+j=i+j+1 from zo]
  have:=congrArg (List.drop 1) hdr
  rw [List.drop_drop,List.drop_drop] at this
  exact this
 show dv 4294967296 (U2.set (i+j) _)+hh*dv 4294967296 (V.take (i+1))*4294967296^j=dv 4294967296 U+((pv+c)/2^32+X/2^32%2)*4294967296^(i+1+j)
 have f1:=pg (B:=4294967296) (X%4294967296) hu
 have:=zd3 (c':=(pv+c)/2^32) (br':=X/2^32%2) (B:=4294967296) (hv:=pv) f1 hval hXe zo
 rw [show i+1+j=i+j+1 from zo,Nat.pow_succ (n:=4294967296),←this,zQ hv,Nat.mul_add,Nat.add_mul,←hpp,Nat.pow_add]
 congr 2
 rw [Nat.mul_comm (4294967296^i) v,←Nat.mul_assoc,Nat.mul_assoc]
theorem zfp (hV:Sl h n1 1 (.slice (some ⟨bv,0,none⟩) V.length vc) (u32s V))(hne:bv≠bu)(hnew:3*n≤bu∧bu<3*n1)(hrow:h bu=some (.row (u32s U) e))(dV:Dig V)(dU:Dig U)(hl:U.length<10000000000∧j+V.length<U.length)
  {c:Code}(hc:tw Tryz.f190 [1,1,1,1,1,1,1,1,1,1,0,1,0,0,1,0,0,1,1,1,1,1,1,1,1,0,1,0,1,1,0,1]=some c){Q:Ex→SV→Prop}
  (hL:wz t [(8,sv),(9,.slice (some ⟨bv,0,none⟩) V.length vc),(10,.slice (some ⟨bu,0,none⟩) U.length U.length),(11,.int .i64 (V.length:Int)),(13,qv),(14,.int .i64 (j:Int)),(16,.int .u64 (hh:Int)),(18,.int .u64 (((0:Nat):Nat):Int)),(24,.int .i64 (((0:Nat):Nat):Int))])
  (hQ:∀(c:Nat) (U2:List Nat) (t':TF) (h':HF),wz t' [(8,sv),(9,.slice (some ⟨bv,0,none⟩) V.length vc),(10,.slice (some ⟨bu,0,none⟩) U.length U.length),(11,.int .i64 (V.length:Int)),(13,qv),(14,.int .i64 (j:Int)),(16,.int .u64 (hh:Int)),(18,.int .u64 (c:Int))]→But bu h h'→h' bu=some (.row (u32s U2) e)→Dig U2→U2.length=U.length→c≤1→U2.drop (V.length+j)=U.drop (V.length+j)→dv 4294967296 U2+c*4294967296^(V.length+j)=dv 4294967296 U+dv 4294967296 V*4294967296^j→Q .normal ⟨t',h',n1,w⟩):EC (ctx K n (Tryz.f190).ntmps) c ⟨t,h,n1,w⟩ Q:=by
 obtain rfl:=Option.some.inj (hc.symm.trans (rfl:tw Tryz.f190 [1,1,1,1,1,1,1,1,1,1,0,1,0,0,1,0,0,1,1,1,1,1,1,1,1,0,1,0,1,1,0,1]=some _))
 clear hc
 refine zN ?_
 refine zV (α:=Nat×Nat×List Nat) (fun z=>[(8,sv),(9,.slice (some ⟨bv,0,none⟩) V.length vc),(10,.slice (some ⟨bu,0,none⟩) U.length U.length),(11,.int .i64 (V.length:Int)),(13,qv),(14,.int .i64 (j:Int)),(16,.int .u64 (hh:Int)),(18,.int .u64 (z.2.1:Int)),(24,.int .i64 (z.1:Int))])
  (fun z h' n' w'=>n1=n'∧w=w'∧But bu h h'∧h' bu=some (.row (u32s z.2.2) e)∧z.1≤V.length∧Dig z.2.2∧z.2.2.length=U.length∧z.2.1≤1∧z.2.2.drop (z.1+j)=U.drop (z.1+j)∧dv 4294967296 z.2.2+z.2.1*4294967296^(z.1+j)=dv 4294967296 U+dv 4294967296 (V.take z.1)*4294967296^j) (fun z=>V.length-z.1)
  (0,0,U) hL ⟨rfl,rfl,fun x _=>rfl,hrow,Nat.zero_le _,dU,rfl,by show 0≤1;decide,rfl,by simp [dv]⟩ (by show V.length-0<LL;unfold LL;omega) ?_
 rintro ⟨i,c,U2⟩ t2 h2 _ _ ⟨rfl,rfl,hbut,hrow2,hi,dU2,hUl,hcB,hdr,hval⟩
 simp only at hrow2 hi dU2 hUl hcB hdr hval
 refine zN ?_
 by_cases hiV:i=V.length
 ·subst hiV
  repeat refine zR ?_
  refine zN ?_
  rw [za rfl]
  refine zN ?_
  rw [List.take_length] at hval
  exact hQ c U2 _ h2 ⟨rfl,rfl,rfl,rfl,rfl,rfl,rfl,rfl,trivial⟩ hbut hrow2 dU2 hUl hcB hdr hval
 obtain ⟨v,hv⟩:∃x,V[i]?=some x:=⟨V[i]'zo,List.getElem?_eq_getElem zo⟩
 have hv':v<4294967296:=dV v (List.mem_of_getElem? hv)
 obtain ⟨u,hu⟩:∃x,U2[i+j]?=some x:=⟨U2[i+j]'zo,List.getElem?_eq_getElem zo⟩
 have hu':u<4294967296:=dU2 u (List.mem_of_getElem? hu)
 have hU2:Sl h2 n1 1 (.slice (some ⟨bu,0,none⟩) U.length U.length) (u32s U2):=Sl.own hrow2 hnew.2 hUl (Nat.le_refl _)
 have hV2:=hV.but hbut hne (Nat.le_refl _)
 repeat refine zR ?_
 refine zN ?_
 rw [zc rfl]
 refine zN ?_
 rw [xf rfl]
 repeat refine zR ?_
 refine z6 (j:=i+j) R7 hU2 ⟨rfl,zo⟩ hu (fun _=>rfl) R4 fun _=>?_
 refine yQ R7 zo ?_
 repeat refine zR ?_
 refine z6 R7 hV2 R2 hv (fun _=>rfl) R4 fun _=>?_
 repeat refine zU ?_
 refine zN ?_
 repeat refine zR ?_
 refine yi R7 ?_
 refine y5 (j:=i+j) (v:=.int .u32 (((c+(u+v))%4294967296:Nat):Int)) R8 zo (by rw [ya];omega) hrow2 hnew.1 (fun _=>rfl) R3 (fun _=>rfl) rfl fun _=>?_
 rw [xk]
 refine zN ?_
 repeat refine zU ?_
 refine zN ?_
 repeat refine zR ?_
 refine zN ?_
 refine goOn (i+1,(c+(u+v))/4294967296,U2.set (i+j) ((c+(u+v))%4294967296)) (by show V.length-(i+1)<V.length-i;omega) ⟨rfl,rfl,rfl,rfl,rfl,rfl,rfl,rfl,by show Value.int .i64 _=Value.int .i64 _;congr 1,trivial⟩ ⟨rfl,rfl,fun x hx=>(zh hx).trans (hbut x hx),ze _ _ _,by show i+1≤V.length;omega,rp dU2 (Nat.mod_lt _ zo),by show (U2.set _ _).length=_;rw [List.length_set];exact hUl,by show _/_≤1;omega,?_,?_⟩
 ·show (U2.set (i+j) _).drop (i+1+j)=U.drop (i+1+j)
  rw [List.drop_set_of_lt zo,show i+1+j=i+j+1 from zo]
  have:=congrArg (List.drop 1) hdr
  rw [List.drop_drop,List.drop_drop] at this
  exact this
 show dv 4294967296 (U2.set (i+j) _)+(c+(u+v))/4294967296*4294967296^(i+1+j)=dv 4294967296 U+dv 4294967296 (V.take (i+1))*4294967296^j
 have e3:=mZ (B:=4294967296) (c:=c) (p:=v) (c':=(c+(u+v))/4294967296) (pg (B:=4294967296) ((c+(u+v))%4294967296) hu) zo
 rw [show i+1+j=i+j+1 from zo,Nat.pow_succ (n:=4294967296),e3,hval,zQ hv,Nat.add_mul,Nat.pow_add]
 have e4:4294967296^i*v*4294967296^j=v*(4294967296^i*4294967296^j):=by rw [Nat.mul_comm (4294967296^i) v,Nat.mul_assoc]
 rw [e4]
 omega
end
theorem eu {a x:Value}(he:uF E ty a x h n=some (.val v h' n' W)):n'=n:=by
 unfold uF at he
 split at he
 ·split at he
  ·split at he
   ·injection he with he;injection he with _ _ e _;exact e.symm
   cases he
  cases he
 cases he
theorem nU {a x:Value}{r:RF}(he:uF E ty a x h n=some r):∃v h' n' W,r=.val v h' n' W:=by
 unfold uF at he
 split at he
 ·split at he
  ·split at he
   ·injection he with he;subst he;exact ⟨_,_,_,_,rfl⟩
   cases he
  cases he
 cases he
theorem my:∀{l:List (Nat×Nat)},wi m l=true→yk m W l=true:=by
 intro l
 induction l with
 |nil=>intro _;rfl
 |cons x l ih=>
  intro h
  obtain ⟨i,b⟩:=x
  unfold wi at h
  split at h
  ·rename_i hb
   unfold yk
   rw [hb,Bool.true_or]
   exact ih h
  cases h
def rF (m:Nat):Nat→Bool
 |0=>true
 |i+1=>m.testBit i&&rF m i
theorem jo:∀{i j:Nat},rF m i=true→j<i→m.testBit j=true:=by
 intro i
 induction i with
 |zero=>intro j _ hj;omega
 |succ i ih=>
  intro j h hj
  simp only [rF,Bool.and_eq_true] at h
  by_cases e:j=i
  ·rw [e];exact h.1
  exact ih h.2 zo
theorem zcd:∀{l:List (Nat×Nat)},(∀x∈l,m.testBit x.1=true)→wi m l=true:=by
 intro l
 induction l with
 |nil=>intro _;rfl
 |cons x l ih=>
  intro h
  obtain ⟨i,b⟩:=x
  unfold wi
  rw [h (i,b) (by simp)]
  exact ih fun y hy=>h y (by simp [hy])
theorem fb {X:CtxF}{ops:List Oper}{a:Operand}{mo:Nat}(ho:o.op=.store ty a x):∀(l:List Oper) (ms:List Nat) (i:Nat) (s:SV) (ld:List (Nat×Nat)),l.length=ms.length→l.all (fun o=>qOp X.E o.op)=true→rF mo (i+l.length)=true→(∀y∈ld,y.1<i)→z0 X ops (l++[o]) (ms++[mo]) i ⟨s,[],ld,[]⟩=seqF X ops (l++[o]) s:=by
 intro l
 induction l with
 |nil=>
  intro ms i s ld hl _ hm hld
  have:ms=[]:=List.length_eq_zero_iff.1 (by simpa using hl.symm)
  subst this
  show z0 X ops [o] [mo] i ⟨s,[],ld,[]⟩=seqF X ops [o] s
  unfold z0 seqF
  simp only
  cases hw:zg ops s.t o with
  |false=>simp only [z0,seqF]
  |true=>
   simp only
   have hc:cls o.op=3:=by rw [ho];rfl
   unfold sP opF
   simp only [hc,xR,wi,Bool.and_self]
   unfold pK
   have e1:effF X.E o.op (evF s.t) s.h s.n=uF X.E ty (evF s.t a) (evF s.t x) s.h s.n:=by rw [ho];rfl
   rw [e1]
   cases he:uF X.E ty (evF s.t a) (evF s.t x) s.h s.n with
   |none=>rfl
   |some r=>
    obtain ⟨v,h',n',W,rfl⟩:=nU he
    have en:=eu he
    subst en
    simp only
    have hok:yk mo W ld=true:=my (zcd fun y hy=>jo (by simpa using hm) (hld y hy))
    unfold xN
    split
    ·simp only [hok,Nat.ble_eq_true_of_le (Nat.le_refl _),Bool.and_self,z0,seqF]
    rfl
 |cons p l ih=>
  intro ms i s ld hl hq hm hld
  cases ms with
  |nil=>simp at hl
  |cons m ms=>
   simp only [List.all_cons,Bool.and_eq_true] at hq
   have hl':l.length=ms.length:=by simpa using hl
   have hm':rF mo (i+1+l.length)=true:=by rw [show i+1+l.length=i+(p::l).length from by simp;omega];exact hm
   have hld':∀y∈ld,y.1<i+1:=fun y hy=>by have:=hld y hy;omega
   show z0 X ops (p::(l++[o])) (m::(ms++[mo])) i ⟨s,[],ld,[]⟩=seqF X ops (p::(l++[o])) s
   unfold z0 seqF
   simp only
   cases hw:zg ops s.t p with
   |false=>
    simp only
    congr 1
    funext s1
    exact ih ms (i+1) s1 ld hl' hq.2 hm' hld'
   |true=>
    simp only
    unfold sP opF
    rcases dt hq.1 with hlt|⟨t,d,x,k,hp,hk⟩
    ·cases hc:cls p.op with
     |zero=>
      simp only [hc]
      cases yr X.E p.op (evF s.t) with
      |none=>rfl
      |some v=>
       simp only
       congr 1
       funext s1
       exact ih ms (i+1) s1 ld hl' hq.2 hm' hld'
     |succ c=>
      cases c with
      |zero=>
       simp only [hc,ws]
       cases qb X.E p.op (evF s.t) s.h with
       |none=>rfl
       |some vb=>
        obtain ⟨v,b⟩:=vb
        simp only [wJ,rf,Bool.and_self]
        congr 1
        funext s1
        exact ih ms (i+1) s1 _ hl' hq.2 hm' fun y hy=>by
         rcases List.mem_cons.1 hy with rfl|hy
         ·show i<i+1;omega
         exact hld' y hy
      |succ c=>omega
    have hc:cls p.op=4:=by rw [hp];rfl
    have hm2:mkE X.E p.op (evF s.t)=none:=by rw [hp];exact tS hk _
    simp only [hc,hm2]
    cases hpu:yr X.E p.op (evF s.t) with
    |none=>
     rw [hp]
     simp only [vJ hk]
    |some v=>
     rw [hp]
     simp only [vJ hk]
     congr 1
     funext s1
     exact ih ms (i+1) s1 ld hl' hq.2 hm' hld'
def zc5 (ops:List Oper)(E:Env):Bool:=(match ops.reverse with|o::r=>(match o.op with| .store _ _ _=>r.all (fun o=>qOp E o.op)&&rF ((xG ops []).getLastD 0) r.length|_=>false)|[]=>false)
theorem i7 {X:CtxF}{s:SV}{Q:Ex→SV→Prop}(hq:zc5 ops.toList X.E=true):EC X (.region id ops true) s Q↔EO X ops.toList ops.toList s (Q .normal):=by
 unfold EC EO
 rw [xm]
 have key:z0 X ops.toList ops.toList (xG ops.toList []) 0 ⟨s,[],[],[]⟩=seqF X ops.toList ops.toList s:=by
  unfold zc5 at hq
  split at hq
  ·rename_i o r hr
   split at hq
   ·rename_i ty a x ho
    simp only [Bool.and_eq_true] at hq
    have e1:ops.toList=r.reverse++[o]:=by
     have:=congrArg List.reverse hr
     simpa using this
    have hml:(xG ops.toList []).length=r.length+1:=by rw [qZ,e1];simp
    obtain ⟨ms,mo,hms⟩:∃ms mo,xG ops.toList []=ms++[mo]:=⟨(xG ops.toList []).dropLast,(xG ops.toList []).getLast (by intro e;rw [e] at hml;simp at hml),(List.dropLast_concat_getLast _).symm⟩
    rw [hms] at hq hml ⊢
    have hmo:(ms++[mo]).getLastD 0=mo:=by simp
    rw [hmo] at hq
    have:=fb (X:=X) (ops:=ops.toList) ho r.reverse ms 0 s [] (by simp at hml ⊢;omega) (by simpa using hq.1) (by simpa using hq.2) (fun y hy=>absurd hy List.not_mem_nil)
    rw [←e1] at this
    exact this
   cases hq
  cases hq
 rw [key]
 cases h:seqF X ops.toList ops.toList s with
 |none=>simp
 |some r=>simp only [vE];simp
theorem Sl.pre {h:HF}{m b len cap:Nat}{e:TypeId}{O T:List Nat}(hrow:h b=some (.row (u32s (O++T)) e))(hb:b<3*m)(hl:O.length=len)(hc:len≤cap):Sl h m 1 (.slice (some ⟨b,0,none⟩) len cap) (u32s O):=
 .at_ hb hrow rfl hc (by rw [ya,List.length_append];omega) (by rw [List.drop_zero,qC,List.take_append_of_le_length (by rw [ya];omega),List.take_of_length_le (by rw [ya];omega)])
theorem uO {s:Nat}(hs:s≤32):2^s*2^(32-s)=4294967296:=by rw [←Nat.pow_add,show s+(32-s)=32 from zo]
theorem eJ {x y s:Nat}(hs:s≤32):(x/2^s+y*2^(32-s)%4294967296)*2^s+x%2^s=x+y%2^s*4294967296:=by
 have e:y*2^(32-s)%4294967296=y%2^s*2^(32-s):=by rw [←uO hs,Nat.mul_mod_mul_right]
 rw [e,Nat.add_mul,Nat.mul_assoc (y%2^s),Nat.mul_comm (2^(32-s)),uO hs]
 have:=Nat.div_add_mod x (2^s)
 rw [Nat.mul_comm (2^s)] at this
 omega
theorem zcq {x s:Nat}(hx:x<4294967296)(hs:s≤32):x/2^s<2^(32-s):=by
 rw [Nat.div_lt_iff_lt_mul (Nat.pow_pos zo),Nat.mul_comm,uO hs]
 exact hx
theorem db (D:List Nat)(x d:Nat)(R:List Nat):(D++x::R).set D.length d=D++d::R:=by
 rw [List.set_append_right _ _ (Nat.le_refl _)]
 simp
theorem zaa {α:Type}{X:CtxF}{a:Code}{s:SV}{Q:Ex→SV→Prop}(live:α→List (Nat×Value))(I:α→HF→Nat→List Nat→Prop)(ha:EC X a s (cutx live I Q))(hb:∀z t h n w,I z h n w→Q .normal ⟨mY t (live z),h,n,w⟩):EC X a s Q:=by
 refine tW ha fun e s' hs=>?_
 cases e with
 |normal=>
  obtain ⟨z,h1,h2⟩:=hs
  have:=hb z s'.t s'.h s'.n s'.w h2
  rw [yM h1] at this
  exact this
 |exit i=>exact hs
 |ret=>exact hs
section
variable {K n n1:Nat}{h:HF}{t:TF}{w:List Nat}{bu rc:Nat}{e:TypeId}{R T:List Nat}{s:Nat}{qv:Value}
set_option maxRecDepth 100000
theorem zbw (hnew:3*n≤bu∧bu<3*n1)(hrow:h bu=some (.row (u32s (R++T)) e))(dR:Dig R)(hl:R.length<10000000000∧R.length≤rc)(hs:s<32)
  {c:Code}(hc:tw Tryz.f190 [1,1,1,1,1,1,1,1,1,1,1,1,0,1]=some c){Q:Ex→SV→Prop}
  (hL:wz t [(8,.int .u64 (s:Int)),(13,qv),(25,.slice (some ⟨bu,0,none⟩) R.length rc),(26,.int .i64 (((0:Nat):Nat):Int))])
  (hQ:∀(D:List Nat) (t':TF) (h':HF),wz t' [(8,.int .u64 (s:Int)),(13,qv),(25,.slice (some ⟨bu,0,none⟩) R.length rc)]→But bu h h'→h' bu=some (.row (u32s (D++T)) e)→Dig D→D.length=R.length→dv 4294967296 D*2^s+(R[0]?).getD 0%2^s=dv 4294967296 R→Q .normal ⟨t',h',n1,w⟩):EC (ctx K n (Tryz.f190).ntmps) c ⟨t,h,n1,w⟩ Q:=by
 obtain rfl:=Option.some.inj (hc.symm.trans (rfl:tw Tryz.f190 [1,1,1,1,1,1,1,1,1,1,1,1,0,1]=some _))
 clear hc
 have h2p:0<2^s:=Nat.pow_pos zo
 refine zN ?_
 refine zV (α:=List Nat) (fun D=>[(8,.int .u64 (s:Int)),(13,qv),(25,.slice (some ⟨bu,0,none⟩) R.length rc),(26,.int .i64 (D.length:Int))])
  (fun D h' n' w'=>n1=n'∧w=w'∧But bu h h'∧h' bu=some (.row (u32s (D++(R.drop D.length++T))) e)∧D.length≤R.length∧Dig D∧dv 4294967296 D*2^s+(R[0]?).getD 0%2^s=dv 4294967296 (R.take D.length)+(R[D.length]?).getD 0%2^s*4294967296^D.length) (fun D=>R.length-D.length)
  [] hL ⟨rfl,rfl,fun x _=>rfl,hrow,Nat.zero_le _,fun d hd=>absurd hd List.not_mem_nil,by simp [dv]⟩ (by show R.length-0<LL;unfold LL;omega) ?_
 rintro D t2 h2 _ _ ⟨rfl,rfl,hbut,hrow2,hD,dD,hval⟩
 refine zN ?_
 by_cases hi:D.length=R.length
 ·repeat refine zR ?_
  refine zN ?_
  rw [za rfl]
  refine zN ?_
  rw [hi,List.drop_length,List.nil_append] at hrow2
  rw [hi,List.take_length,List.getElem?_eq_none (Nat.le_refl _)] at hval
  refine hQ D _ h2 ⟨rfl,rfl,rfl,trivial⟩ hbut hrow2 dD hi ?_
  rw [hval]
  simp
 obtain ⟨x,hx⟩:∃x,R[D.length]?=some x:=⟨R[D.length]'zo,List.getElem?_eq_getElem zo⟩
 have hx':x<4294967296:=dR x (List.mem_of_getElem? hx)
 have hdx:x/2^s≤x:=Nat.div_le_self _ _
 rw [xt hx,List.cons_append] at hrow2
 have hS1:Sl h2 n1 1 (.slice (some ⟨bu,0,none⟩) R.length rc) (u32s (D++x::R.drop (D.length+1))):=Sl.pre (T:=T) (by rw [List.append_assoc,List.cons_append];exact hrow2) hnew.2 (by simp;omega) hl.2
 repeat refine zR ?_
 refine zN ?_
 rw [zc rfl]
 refine zN ?_
 repeat refine zR ?_
 refine z6 (j:=D.length) (dv:=x) R7 hS1 R2 (by simp) (fun _=>rfl) R4 fun _=>?_
 refine zM ?_
 refine pV (a:=x) (s:=s) R6 zo ?_
 refine y5 (j:=D.length) (v:=.int .u32 ((x/2^s:Nat):Int)) R8 rfl (by rw [ya];simp;omega) hrow2 hnew.1 (fun _=>rfl) R3 (fun _=>rfl) rfl fun _=>?_
 rw [xk,db]
 refine zN ?_
 repeat refine zR ?_
 refine zN ?_
 have hy':(R[D.length+1]?).getD 0<4294967296:=by
  cases hc':R[D.length+1]? with
  |none=>decide
  |some x=>exact dR x (List.mem_of_getElem? hc')
 refine zaa (α:=HF) (fun _=>[(8,.int .u64 (s:Int)),(13,qv),(25,.slice (some ⟨bu,0,none⟩) R.length rc),(26,.int .i64 (D.length:Int))])
  (fun g h' n' w'=>g=h'∧n1=n'∧w=w'∧But bu h g∧g bu=some (.row (u32s (D++(x/2^s+(R[D.length+1]?).getD 0*2^(32-s)%4294967296)::(R.drop (D.length+1)++T))) e)) ?_ ?_
 ·by_cases hj:D.length+1<R.length
  ·obtain ⟨y,hy⟩:∃y,R[D.length+1]?=some y:=⟨R[D.length+1]'zo,List.getElem?_eq_getElem zo⟩
   have hyl:y<4294967296:=dR y (List.mem_of_getElem? hy)
   have hyp:y*2^(32-s)<18446744073709551616:=by
    have h1:2^(32-s)≤2^32:=Nat.pow_le_pow_right zo zo
    have:y*2^(32-s)≤4294967295*4294967296:=Nat.mul_le_mul zo h1
    omega
   rw [zc (by show Value.bool _=_;rw [decide_eq_true zo])]
   rw [i7 rfl]
   have hrow3:upd h2 bu (some (.row (u32s (D++x/2^s::(R.drop (D.length+1)++T))) e)) bu=some (.row (u32s (D++x/2^s::(R.drop (D.length+1)++T))) e):=ze _ _ _
   have hS2:Sl (upd h2 bu (some (.row (u32s (D++x/2^s::(R.drop (D.length+1)++T))) e))) n1 1 (.slice (some ⟨bu,0,none⟩) R.length rc) (u32s (D++x/2^s::R.drop (D.length+1))):=Sl.pre (T:=T) (by rw [List.append_assoc,List.cons_append];exact hrow3) hnew.2 (by simp;omega) hl.2
   repeat refine zR ?_
   refine z6 (j:=D.length) (dv:=x/2^s) R7 hS2 R2 (by simp) (fun _=>rfl) R4 fun _=>?_
   repeat refine zR ?_
   refine z6 (j:=D.length+1) (dv:=y) R7 hS2 ⟨rfl,zo⟩ (by rw [List.getElem?_append_right zo,show D.length+1-D.length=1 from zo,List.getElem?_cons_succ,List.getElem?_drop,Nat.add_zero];exact hy) (fun _=>rfl) R4 fun _=>?_
   refine yQ R7 zo ?_
   refine zM ?_
   refine yb (a:=32) (b:=s) R6 zo ?_
   refine yz (a:=y) (s:=32-s) R6 zo ?_
   rw [Nat.mod_eq_of_lt hyp]
   refine yi R7 ?_
   refine mb (a:=x/2^s) (b:=y*2^(32-s)%4294967296) R6 zo ?_
   rw [dE zo (zcq hx' zo)]
   refine y5 (j:=D.length) (v:=.int .u32 ((x/2^s+y*2^(32-s)%4294967296:Nat):Int)) R8 rfl (by rw [ya];simp;omega) hrow3 hnew.1 (fun _=>rfl) R3 (fun _=>rfl) rfl fun _=>?_
   rw [xk,db,xC]
   refine zN ?_
   exact zS _ ⟨rfl,rfl,rfl,rfl,trivial⟩ ⟨rfl,rfl,rfl,fun b hb=>(zh hb).trans (hbut b hb),by rw [hy];exact ze _ _ _⟩
  rw [za (by show Value.bool _=_;rw [decide_eq_false zo])]
  refine zN ?_
  exact zS _ ⟨rfl,rfl,rfl,rfl,trivial⟩ ⟨rfl,rfl,rfl,fun b hb=>(zh hb).trans (hbut b hb),by rw [List.getElem?_eq_none zo];simp only [Option.getD_none,Nat.zero_mul,Nat.zero_mod,Nat.add_zero];exact ze _ _ _⟩
 rintro g t3 _ _ _ ⟨rfl,rfl,rfl,hbut3,hrow3⟩
 generalize hyy:(R[D.length+1]?).getD 0=y at hy' hrow3
 have hdl:x/2^s+y*2^(32-s)%4294967296<4294967296:=zgz zo (zcq hx' zo)
 refine zN ?_
 repeat refine zR ?_
 refine zN ?_
 refine goOn (D++[x/2^s+y*2^(32-s)%4294967296]) (by simp;omega) ⟨rfl,rfl,rfl,by show Value.int .i64 _=Value.int .i64 _;simp,trivial⟩ ⟨rfl,rfl,hbut3,?_,by simp;omega,tn dD hdl,?_⟩
 ·show g bu=some (.row (u32s (D++[_]++(R.drop (D++[_]).length++T))) e)
  rw [List.length_append,List.length_singleton,List.append_assoc]
  exact hrow3
 rw [List.length_append,List.length_singleton,wK,zQ hx,hyy]
 rw [hx] at hval
 simp only [Option.getD_some] at hval
 have e1:=eJ (x:=x) (y:=y) (s:=s) zo
 generalize x/2^s+y*2^(32-s)%4294967296=d at*
 generalize (R[0]?).getD 0%2^s=r0 at*
 have e2:(d*2^s+x%2^s)*4294967296^D.length=(x+y%2^s*4294967296)*4294967296^D.length:=by rw [e1]
 rw [Nat.add_mul,Nat.add_mul x] at e2
 rw [Nat.add_mul,Nat.pow_succ (n:=4294967296)]
 have e3:4294967296^D.length*d*2^s=d*2^s*4294967296^D.length:=by rw [Nat.mul_comm (4294967296^D.length) d,Nat.mul_right_comm]
 have e4:y%2^s*(4294967296^D.length*4294967296)=y%2^s*4294967296*4294967296^D.length:=by rw [Nat.mul_comm (4294967296^D.length),←Nat.mul_assoc]
 rw [e3,e4,Nat.mul_comm (4294967296^D.length) x]
 omega
end
end Go.Proofs.YtlmbghgklnmlkaaGreatDoor
namespace Go.Proofs.YtlmbghgklnmlkaaGreatDoor
variable {B P U V a b c2 i j m s top:Nat}{C L:List Nat}
theorem xw (h:a*P<b*P):a<b:=by
 apply Classical.byContradiction
 intro hn
 have:b*P≤a*P:=Nat.mul_le_mul_right P zo
 omega
theorem zim {T hh L W:Nat}(hU:U=L+W*P)(hL:L<P)(hV:0<V)(h:T+hh*V*P=U)(hq:W/V≤hh):hh=W/V:=by
 have h1:hh*V*P<(W+1)*P:=by rw [Nat.add_mul,Nat.one_mul];omega
 have h2:=xw h1
 have h3:hh≤W/V:=by rw [Nat.le_div_iff_mul_le hV];omega
 omega
theorem zhc {T hh L W BB:Nat}(hU:U=L+W*P)(hV:0<V)(h:T+hh*V*P=U+BB)(hT:T<BB)(hq:hh≤W/V+1):hh=W/V+1:=by
 have h1:W*P<hh*V*P:=zo
 have h2:=xw h1
 have h3:¬hh≤W/V:=by rw [Nat.le_div_iff_mul_le hV];omega
 omega
theorem gc {x y:Nat}(ha:a<P)(hb:b<P)(h:a+x*P=b+y*P):a=b∧x=y:=by
 have h1:(a+x*P)%P=(b+y*P)%P:=by rw [h]
 rw [Nat.add_mul_mod_self_right,Nat.add_mul_mod_self_right,Nat.mod_eq_of_lt ha,Nat.mod_eq_of_lt hb] at h1
 subst h1
 have h2:x*P=y*P:=zo
 exact ⟨rfl,Nat.eq_of_mul_eq_mul_right zo h2⟩
theorem zfi {l:List Nat}{x:Nat}(hx:l[i]?=some x)(hz:dv B (l.drop (i+1))=0):dv B l=dv B (l.take i)+x*B^i:=by
 have hlt:=(List.getElem?_eq_some_iff.1 hx).1
 have e:dv B l=dv B (l.take (i+1))+B^(l.take (i+1)).length*dv B (l.drop (i+1)):=by rw [←xH,List.take_append_drop]
 rw [e,hz,Nat.mul_zero,Nat.add_zero,zQ hx,Nat.mul_comm]
theorem sO (B:Nat)(l:List Nat)(j:Nat)(h:j≤l.length):dv B l=dv B (l.take j)+dv B (l.drop j)*B^j:=by
 have e:dv B l=dv B (l.take j)+B^(l.take j).length*dv B (l.drop j):=by rw [←xH,List.take_append_drop]
 rw [e,List.length_take,Nat.min_eq_left h,Nat.mul_comm]
theorem yY {l:List Nat}(h:Dig l)(hi:i≤l.length):dv 4294967296 (l.take i)<4294967296^i:=by
 have:=nz (B:=4294967296) (l:=l.take i) fun d hd=>h d (List.mem_of_mem_take hd)
 rw [List.length_take,Nat.min_eq_left hi] at this
 exact this
theorem zee {U U2:List Nat}{hh w0 c br:Nat}(hU:j≤U.length)(dU:Dig U)(hV:0<V)(h2:dv 4294967296 U2+hh*V*4294967296^j=dv 4294967296 U+(c+br)*4294967296^i)(hw:U2[i]?=some w0)(hle:c+br≤w0)(hq:dv 4294967296 (U.drop j)/V≤hh):
  hh=dv 4294967296 (U.drop j)/V∧dv 4294967296 (U2.set i (w0-c-br))+dv 4294967296 (U.drop j)/V*V*4294967296^j=dv 4294967296 U:=by
 have e1:=pg (B:=4294967296) (w0-c-br) hw
 have e2:dv 4294967296 (U2.set i (w0-c-br))+hh*V*4294967296^j=dv 4294967296 U:=by
  have e3:w0*4294967296^i=(w0-c-br)*4294967296^i+(c+br)*4294967296^i:=by rw [←Nat.add_mul];congr 1;omega
  omega
 have e4:=zim (sO 4294967296 U j hU) (yY dU hU) hV e2 hq
 rw [←e4]
 exact ⟨rfl,e2⟩
theorem zed {U U3 U4:List Nat}{hh x:Nat}(hU:j≤U.length)(dU:Dig U)(hV:0<V)(hVi:V*4294967296^j≤4294967296^i)(d3:Dig U3)(d4:Dig U4)(hx3:U3[i]?=some x)(hz3:dv 4294967296 (U3.drop (i+1))=0)(hx4:U4[i]?=some x)(hz4:dv 4294967296 (U4.drop (i+1))=0)
  (h3:dv 4294967296 U3+hh*V*4294967296^j=dv 4294967296 U+4294967296*4294967296^i)(h4:dv 4294967296 U4+c2*4294967296^i=dv 4294967296 U3+V*4294967296^j)(hq:hh≤dv 4294967296 (U.drop j)/V+1):
  hh=dv 4294967296 (U.drop j)/V+1∧(x+c2)%4294967296=0∧dv 4294967296 (U4.set i 0)+dv 4294967296 (U.drop j)/V*V*4294967296^j=dv 4294967296 U:=by
 have hl3:=(List.getElem?_eq_some_iff.1 hx3).1
 have hl4:=(List.getElem?_eq_some_iff.1 hx4).1
 have hxl:x<4294967296:=d3 x (List.mem_of_getElem? hx3)
 have e3:=zfi hx3 hz3
 have e4:=zfi hx4 hz4
 have t3:=yY d3 (show i≤U3.length by omega)
 have t4:=yY d4 (show i≤U4.length by omega)
 have hT:dv 4294967296 U3<4294967296*4294967296^i:=by
  have:(x+1)*4294967296^i≤4294967296*4294967296^i:=Nat.mul_le_mul_right _ zo
  rw [Nat.add_mul,Nat.one_mul] at this
  omega
 have hp:=sO 4294967296 U j hU
 have tl:=yY dU hU
 have hh1:=zhc hp hV h3 hT hq
 generalize dv 4294967296 (U.drop j)=W at*
 obtain ⟨r,hr⟩:∃r,W=W/V*V+r∧r<V:=⟨W%V,by rw [Nat.mul_comm];exact (Nat.div_add_mod W V).symm,Nat.mod_lt _ hV⟩
 generalize W/V=q at*
 obtain ⟨hr1,hr2⟩:=hr
 subst hh1
 -- the parts
 have f1:(q+1)*V*4294967296^j=q*V*4294967296^j+V*4294967296^j:=by rw [Nat.add_mul,Nat.add_mul,Nat.one_mul]
 have f2:W*4294967296^j=q*V*4294967296^j+r*4294967296^j:=by rw [hr1,Nat.add_mul]
 have f3:dv 4294967296 (U.take j)+r*4294967296^j<4294967296^i:=by
  have:(r+1)*4294967296^j≤V*4294967296^j:=Nat.mul_le_mul_right _ zo
  rw [Nat.add_mul,Nat.one_mul] at this
  omega
 have f4:dv 4294967296 (U4.take i)+(x+c2)*4294967296^i=(dv 4294967296 (U.take j)+r*4294967296^j)+4294967296*4294967296^i:=by
  rw [Nat.add_mul x]
  omega
 obtain ⟨g1,g2⟩:=gc t4 f3 f4
 refine ⟨rfl,by rw [g2],?_⟩
 have e5:=pg (B:=4294967296) 0 hx4
 rw [Nat.zero_mul,Nat.add_zero] at e5
 omega
theorem zd9 (hCl:C.length=m+2)(dC:Dig C)(htop:C[m+1]?=some top)(h1:2147483648≤top*2^s)(h2:top*2^s<4294967296)(hs:s<32)(hL:L.length=C.length+1)(dL:Dig L)(hv:dv 4294967296 L=dv 4294967296 C*2^s):
  ∃v1 v2,zT L=L.take (m+2)∧(L.take (m+2))[m+1]?=some v1∧(L.take (m+2))[m]?=some v2∧2147483648≤v1∧v1<4294967296∧v2<4294967296∧dv 4294967296 (L.take (m+2))=dv 4294967296 C*2^s:=by
 have hp:0<2^s:=Nat.pow_pos zo
 have hC:=zQ (B:=4294967296) htop
 rw [List.take_of_length_le zo] at hC
 have hlow:=yY dC (show m+1≤C.length by omega)
 -- (top + 1) 2^s is at most the base
 have hts:(top+1)*2^s≤4294967296:=by
  have e:=uO (s:=s) zo
  have:top<2^(32-s):=by
   apply xw (P:=2^s)
   rw [Nat.mul_comm (2^(32-s)),e]
   exact h2
  have h3:(top+1)*2^s≤2^(32-s)*2^s:=Nat.mul_le_mul_right _ zo
  rw [Nat.mul_comm (2^(32-s)),e] at h3
  exact h3
 have hub:dv 4294967296 L<4294967296^(m+2):=by
  rw [hv]
  have h3:dv 4294967296 C<(top+1)*4294967296^(m+1):=by
   rw [hC,Nat.add_mul,Nat.one_mul,Nat.mul_comm (4294967296^(m+1))]
   omega
  have h4:dv 4294967296 C*2^s<(top+1)*4294967296^(m+1)*2^s:=Nat.mul_lt_mul_of_pos_right h3 hp
  have h5:(top+1)*4294967296^(m+1)*2^s=(top+1)*2^s*4294967296^(m+1):=Nat.mul_right_comm _ _ _
  have h6:(top+1)*2^s*4294967296^(m+1)≤4294967296*4294967296^(m+1):=Nat.mul_le_mul_right _ hts
  have h7:4294967296*4294967296^(m+1)=4294967296^(m+2):=by rw [Nat.pow_succ (n:=4294967296) (m:=m+1),Nat.mul_comm]
  omega
 obtain ⟨hz,ht⟩:=kZ zo hub
 have hlL:L.length=m+3:=zo
 obtain ⟨x,hx⟩:∃x,L[m+2]?=some x:=⟨L[m+2]'zo,List.getElem?_eq_getElem zo⟩
 have hx0:x=0:=zff zo hz 0 x (by rw [List.getElem?_drop];exact hx)
 subst hx0
 have eL:L=L.take (m+2)++[0]:=by
  have:=xW hx
  rw [List.take_of_length_le zo] at this
  exact this
 obtain ⟨v1,hv1⟩:∃x,L[m+1]?=some x:=⟨L[m+1]'zo,List.getElem?_eq_getElem zo⟩
 obtain ⟨v2,hv2⟩:∃x,L[m]?=some x:=⟨L[m]'zo,List.getElem?_eq_getElem zo⟩
 have hV:=zQ (B:=4294967296) hv1
 have hVl:=yY dL (show m+1≤L.length by omega)
 have hge:2147483648≤v1:=by
  have h3:2147483648*4294967296^(m+1)≤dv 4294967296 (L.take (m+2)):=by
   rw [ht,hv,hC,Nat.add_mul]
   have h5:4294967296^(m+1)*top*2^s=top*2^s*4294967296^(m+1):=by rw [Nat.mul_assoc,Nat.mul_comm]
   have h6:2147483648*4294967296^(m+1)≤top*2^s*4294967296^(m+1):=Nat.mul_le_mul_right _ h1
   omega
  have h4:dv 4294967296 (L.take (m+2))<(v1+1)*4294967296^(m+1):=by
   rw [hV,Nat.add_mul,Nat.one_mul,Nat.mul_comm (4294967296^(m+1))]
   omega
  have:=xw (Nat.lt_of_le_of_lt h3 h4)
  omega
 refine ⟨v1,v2,?_,by rw [List.getElem?_take_of_lt zo];exact hv1,by rw [List.getElem?_take_of_lt zo];exact hv2,hge,dL v1 (List.mem_of_getElem? hv1),dL v2 (List.mem_of_getElem? hv2),by rw [ht,hv]⟩
 have e2:zT L=zT (L.take (m+2)):=by
  conv=>lhs;rw [eL]
  exact yJ _
 rw [e2,xW hv1,yN _ zo]
end Go.Proofs.YtlmbghgklnmlkaaGreatDoor
namespace Go.Proofs.YtlmbghgklnmlkaaGreatDoor
open Go Go.GL
variable {E:Env}{h h':HF}{b bytes c1 c2 l1 l2 m n size bt sz g n' i j N U a r0 r1 s top V d len lo' l P c' k n0:Nat}{e sT e2 ty xT:TypeId}{z d1 d2 v c0 n1 n2:Value}{new cs c args:List Value}{a1 a2:Option Addr}{A C L w ld ln W Z:List Nat}{fn:Func}{x:Operand}{ji:Int}{ik ik':IntKind}{q:Rat}{f:FuncId}{body:Code}
theorem zea (j q:Nat)(Qd:List Nat):(List.replicate (j+1) 0++Qd).set j q=List.replicate j 0++q::Qd:=by
 have e:List.replicate (j+1) 0++Qd=List.replicate j 0++(0::Qd):=by
  rw [List.replicate_succ',List.append_assoc];rfl
 rw [e,List.set_append_right _ _ (by simp)]
 simp
section
variable {K n n1:Nat}{h:HF}{t:TF}{w:List Nat}{bv bu bq vc:Nat}{e eq:TypeId}{V U0:List Nat}{m M:Nat}{sv:Value}
set_option maxRecDepth 100000
theorem zbv (hV:Sl h n1 1 (.slice (some ⟨bv,0,none⟩) V.length vc) (u32s V))(hd:bv≠bu∧bv≠bq∧bu≠bq)(hnew:(3*n≤bu∧bu<3*n1)∧(3*n≤bq∧bq<3*n1))(hru:h bu=some (.row (u32s U0) e))(hrq:h bq=some (.row (u32s (List.replicate (M+1) 0)) eq))(dV:Dig V)(dU0:Dig U0)(hVl:V.length=m+2)(hUl:U0.length=M+V.length+1)(hlen:U0.length<10000000000){v1 v2:Nat}(hv1:V[m+1]?=some v1)(hv2:V[m]?=some v2)(b1:2147483648≤v1∧v1<4294967296)(b2:v2<4294967296)(hstart:dv 4294967296 (U0.drop (M+1))<dv 4294967296 V)
  {c:Code}(hc:tw Tryz.f190 [1,1,1,1,1,1,1,1,1,1,0,1]=some c){Q:Ex→SV→Prop}
  (hL:wz t [(8,sv),(9,.slice (some ⟨bv,0,none⟩) V.length vc),(10,.slice (some ⟨bu,0,none⟩) U0.length U0.length),(11,.int .i64 (V.length:Int)),(13,.slice (some ⟨bq,0,none⟩) (M+1) (M+1)),(14,.int .i64 (((M+1:Nat):Int)-1))])
  (hQ:∀(U Qd:List Nat) (t':TF) (h':HF),wz t' [(8,sv),(10,.slice (some ⟨bu,0,none⟩) U0.length U0.length),(11,.int .i64 (V.length:Int)),(13,.slice (some ⟨bq,0,none⟩) (M+1) (M+1))]→(∀b,b≠bu→b≠bq→h' b=h b)→h' bu=some (.row (u32s U) e)→h' bq=some (.row (u32s Qd) eq)→Dig U→Dig Qd→U.length=U0.length→Qd.length=M+1→dv 4294967296 U+dv 4294967296 V*dv 4294967296 Qd=dv 4294967296 U0→dv 4294967296 U<dv 4294967296 V→Q .normal ⟨t',h',n1,w⟩):EC (ctx K n (Tryz.f190).ntmps) c ⟨t,h,n1,w⟩ Q:=by
 obtain rfl:=Option.some.inj (hc.symm.trans (rfl:tw Tryz.f190 [1,1,1,1,1,1,1,1,1,1,0,1]=some _))
 clear hc
 have eV:=bf (B:=4294967296) hVl hv1 hv2
 have tV:=yY dV (show m≤V.length by omega)
 have hVub:=nz (B:=4294967296) dV
 have hVpos:0<dv 4294967296 V:=zo
 rw [i9]
 refine zV (α:=Nat×List Nat×List Nat) (fun z=>[(8,sv),(9,.slice (some ⟨bv,0,none⟩) V.length vc),(10,.slice (some ⟨bu,0,none⟩) U0.length U0.length),(11,.int .i64 (V.length:Int)),(13,.slice (some ⟨bq,0,none⟩) (M+1) (M+1)),(14,.int .i64 ((z.1:Int)-1))])
  (fun z h' n' w'=>n1=n'∧w=w'∧(∀b,b≠bu→b≠bq→h' b=h b)∧h' bu=some (.row (u32s z.2.1) e)∧h' bq=some (.row (u32s (List.replicate z.1 0++z.2.2)) eq)∧Dig z.2.1∧Dig z.2.2∧z.2.1.length=U0.length∧z.1+z.2.2.length=M+1∧dv 4294967296 z.2.1+dv 4294967296 V*dv 4294967296 z.2.2*4294967296^z.1=dv 4294967296 U0∧dv 4294967296 (z.2.1.drop z.1)<dv 4294967296 V) (fun z=>z.1)
  (M+1,U0,[]) hL ⟨rfl,rfl,fun b _ _=>rfl,hru,by rw [List.append_nil];exact hrq,dU0,fun d hd=>absurd hd List.not_mem_nil,rfl,rfl,by simp [dv],hstart⟩ (by show M+1<LL;unfold LL;omega) ?_
 rintro ⟨jj,U,Qd⟩ t2 h2 _ _ ⟨rfl,rfl,hoth,hru2,hrq2,dU,dQ,hUl2,hQl,hval,hlt⟩
 simp only at hru2 hrq2 dU dQ hUl2 hQl hval hlt
 refine zN ?_
 cases jj with
 |zero=>
  repeat refine zR ?_
  refine zN ?_
  rw [za rfl]
  refine zN ?_
  refine hQ U Qd _ h2 ⟨rfl,rfl,rfl,rfl,trivial⟩ hoth hru2 hrq2 dU dQ hUl2 zo ?_ hlt
  rw [Nat.pow_zero,Nat.mul_one] at hval
  exact hval
 |succ j=>
  obtain ⟨w0,hw0⟩:∃x,U[j+m+2]?=some x:=⟨U[j+m+2]'zo,List.getElem?_eq_getElem zo⟩
  obtain ⟨w1,hw1⟩:∃x,U[j+m+1]?=some x:=⟨U[j+m+1]'zo,List.getElem?_eq_getElem zo⟩
  obtain ⟨w2,hw2⟩:∃x,U[j+m]?=some x:=⟨U[j+m]'zo,List.getElem?_eq_getElem zo⟩
  have bw0:w0<4294967296:=dU w0 (List.mem_of_getElem? hw0)
  have bw1:w1<4294967296:=dU w1 (List.mem_of_getElem? hw1)
  have bw2:w2<4294967296:=dU w2 (List.mem_of_getElem? hw2)
  obtain ⟨xj,hxj⟩:∃x,U[j]?=some x:=⟨U[j]'zo,List.getElem?_eq_getElem zo⟩
  have bxj:xj<4294967296:=dU xj (List.mem_of_getElem? hxj)
  have hW:dv 4294967296 (U.drop j)<4294967296*dv 4294967296 V:=by
   rw [xt hxj]
   simp only [dv]
   omega
  have hWp:dv 4294967296 (U.drop j)<4294967296^(m+3):=by
   rw [hVl] at hVub
   have:4294967296^(m+3)=4294967296*4294967296^(m+2):=by rw [Nat.pow_succ (n:=4294967296) (m:=m+2),Nat.mul_comm]
   omega
  obtain ⟨hz,ht3⟩:=kZ zo hWp
  rw [List.drop_drop] at hz
  have e3:=iA (B:=4294967296) (l:=(U.drop j).take (m+3)) (m:=m) (x:=w0) (y:=w1) (z:=w2) (by rw [List.length_take,List.length_drop];omega) (by rw [List.getElem?_take_of_lt zo,List.getElem?_drop];exact hw0) (by rw [List.getElem?_take_of_lt zo,List.getElem?_drop];exact hw1) (by rw [List.getElem?_take_of_lt zo,List.getElem?_drop];exact hw2)
  have twr:dv 4294967296 (((U.drop j).take (m+3)).take m)<4294967296^m:=yY (fun d hd=>dU d (List.mem_of_mem_drop (List.mem_of_mem_take hd))) (by rw [List.length_take,List.length_drop];omega)
  rw [ht3] at e3
  have hV2:Sl h2 n1 1 (.slice (some ⟨bv,0,none⟩) V.length vc) (u32s V):=hV.keep (fun a l cc ee=>by injection ee with e1;injection e1 with e1;subst e1;exact hoth _ hd.1 hd.2.1) (Nat.le_refl _)
  have hU2:Sl h2 n1 1 (.slice (some ⟨bu,0,none⟩) U0.length U0.length) (u32s U):=Sl.own hru2 hnew.1.2 hUl2 (Nat.le_refl _)
  rw [←hUl2] at hU2
  repeat refine zR ?_
  refine zN ?_
  rw [zc rfl]
  refine zN ?_
  rw [xf rfl]
  rw [←hUl2]
  repeat refine zR ?_
  refine z6 (j:=j+m+2) R7 hU2 ⟨rfl,zo⟩ hw0 (fun _=>rfl) R4 fun _=>?_
  refine yQ R7 zo ?_
  refine yz (a:=w0) (s:=32) R6 zo ?_
  repeat refine zR ?_
  refine z6 (j:=j+m+1) R7 hU2 ⟨rfl,zo⟩ hw1 (fun _=>rfl) R4 fun _=>?_
  refine yQ R7 zo ?_
  refine xp (a:=w0*2^32%18446744073709551616) (b:=w1) R6 zo ?_
  rw [eN w0 w1 bw0 bw1]
  repeat refine zR ?_
  simp only [yd,z5,zZ,yc,zk]
  repeat refine zR ?_
  refine z6 (j:=m+1) R7 hV2 ⟨rfl,zo⟩ hv1 (fun _=>rfl) R4 fun _=>?_
  refine yQ R7 zo ?_
  refine xg (a:=w0*4294967296+w1) (b:=v1) R6 zo ?_
  repeat refine zR ?_
  simp only [yd,z5,zZ,yc,zk]
  repeat refine zR ?_
  refine z6 (j:=m+1) R7 hV2 ⟨rfl,zo⟩ hv1 (fun _=>rfl) R4 fun _=>?_
  refine yQ R7 zo ?_
  refine wm (a:=w0*4294967296+w1) (b:=v1) R6 zo ?_
  repeat refine zR ?_
  simp only [yd,z5,zZ,yc,zk]
  have hg1:=ql (B:=4294967296) (P:=4294967296^m) (v1:=v1) (v2:=v2) (vr:=dv 4294967296 (V.take m)) (top:=w0*4294967296+w1) (w2:=w2) (wr:=dv 4294967296 (((U.drop j).take (m+3)).take m)) zo bw2 twr
  have hg3:∀hh rr:Nat,hh*v1+rr=w0*4294967296+w1→rr*4294967296+w2<hh*v2→dv 4294967296 (U.drop j)/dv 4294967296 V<hh:=fun hh rr h1 h2=>by
   rw [e3,eV]
   exact ni bw2 twr h1 h2
  have htop:=zc6 (B:=4294967296) (P:=4294967296^m) (v1:=v1) (v2:=v2) (vr:=dv 4294967296 (V.take m)) (top:=w0*4294967296+w1) (w2:=w2) (wr:=dv 4294967296 (((U.drop j).take (m+3)).take m)) tV b2 (by rw [←e3,←eV];exact hW)
  rw [←e3,←eV] at hg1
  have hQB:dv 4294967296 (U.drop j)/dv 4294967296 V<4294967296:=by
   rw [Nat.div_lt_iff_lt_mul hVpos]
   exact hW
  refine zfo (sv:=sv) (qv:=.slice (some ⟨bq,0,none⟩) (M+1) (M+1)) (U:=U) (V:=V) (m:=m) (j:=j) (g:=dv 4294967296 (U.drop j)/dv 4294967296 V) (top:=w0*4294967296+w1) hV2 hU2 hVl zo hv1 hv2 hw2 b1 b2 bw2 htop hg1 hQB hg3 rfl ⟨rfl,rfl,rfl,rfl,rfl,by show Value.int .i64 _=Value.int .i64 _;congr 1;omega,rfl,rfl,trivial⟩ ?_
  rintro hh rr t4 hl4 hsum hhB hle hge
  rw [←yM hl4]
  clear hl4
  have hub:hh≤dv 4294967296 (U.drop j)/dv 4294967296 V+1:=by
   rw [e3,eV]
   exact cg zo zo tV hsum hle hhB
  simp only [yd,z5,zZ,yc,zk]
  repeat refine zR ?_
  simp only [yd,z5,zZ,yc,zk]
  repeat refine zR ?_
  simp only [yd,z5,zZ,yc,zk]
  rw [hUl2] at hU2
  refine zfm (sv:=sv) (qv:=.slice (some ⟨bq,0,none⟩) (M+1) (M+1)) (U:=U) (V:=V) (j:=j) (hh:=hh) hV2 hd.1 hnew.1 hru2 dV dU zo hhB rfl ⟨rfl,rfl,rfl,rfl,rfl,rfl,rfl,rfl,rfl,rfl,trivial⟩ ?_
  rintro c br U2 t5 h5 hl5 hbut5 hrow5 dU2 hU2l hcB hbr hdr hval5
  rw [←yM hl5]
  clear hl5
  have hi:V.length+j=j+m+2:=zo
  rw [hi] at hdr hval5
  have hw0':U2[j+m+2]?=some w0:=by
   have:(U2.drop (j+m+2))[0]?=(U.drop (j+m+2))[0]?:=by rw [hdr]
   rw [List.getElem?_drop,List.getElem?_drop,Nat.add_zero] at this
   rw [this];exact hw0
  have hz2:dv 4294967296 (U2.drop (j+m+2+1))=0:=by
   have:=congrArg (List.drop 1) hdr
   rw [List.drop_drop,List.drop_drop] at this
   rw [this,show j+m+2+1=j+(m+3) from zo]
   exact hz
  have hU5:Sl h5 n1 1 (.slice (some ⟨bu,0,none⟩) U.length U.length) (u32s U2):=Sl.own hrow5 hnew.1.2 hU2l (Nat.le_refl _)
  simp only [yd,z5,zZ,yc,zk]
  repeat refine zR ?_
  refine z6 (j:=j+m+2) R7 hU5 ⟨rfl,zo⟩ hw0' (fun _=>rfl) R4 fun _=>?_
  refine yQ R7 zo ?_
  refine zM ?_
  refine y8 (a:=w0) (b:=c) R6 zo ?_
  refine zM ?_
  refine y8 (a:=(w0+18446744073709551616-c)%18446744073709551616) (b:=br) R6 zo ?_
  obtain ⟨X,hX⟩:∃X,X=((w0+18446744073709551616-c)%18446744073709551616+18446744073709551616-br)%18446744073709551616:=⟨_,rfl⟩
  rw [←hX]
  repeat refine zR ?_
  simp only [yd,z5,zZ,yc,zk]
  repeat refine zR ?_
  refine yi R7 ?_
  refine y5 (j:=j+m+2) (v:=.int .u32 ((X%4294967296:Nat):Int)) R8 zo (by rw [ya];omega) hrow5 hnew.1.1 (fun _=>rfl) R3 (fun _=>rfl) rfl fun _=>?_
  rw [xk]
  simp only [yd,z5,zZ,yc,zk]
  refine zM ?_
  refine z7 (a:=X) (s:=63) R6 zo ?_
  refine kb R6 ?_
  simp only [yd,z5,zZ,yc,zk]
  have dU3:Dig (U2.set (j+m+2) (X%4294967296)):=rp dU2 (Nat.mod_lt _ zo)
  refine yI (α:=Nat×List Nat×HF) (fun z=>[(8,sv),(9,.slice (some ⟨bv,0,none⟩) V.length vc),(10,.slice (some ⟨bu,0,none⟩) U.length U.length),(11,.int .i64 (V.length:Int)),(13,.slice (some ⟨bq,0,none⟩) (M+1) (M+1)),(14,.int .i64 (j:Int)),(16,.int .u64 (z.1:Int))])
   (fun z h' n' w'=>z.2.2=h'∧n1=n'∧w=w'∧But bu h2 z.2.2∧z.2.2 bu=some (.row (u32s z.2.1) e)∧Dig z.2.1∧z.2.1.length=U.length∧z.1=dv 4294967296 (U.drop j)/dv 4294967296 V∧dv 4294967296 z.2.1+dv 4294967296 (U.drop j)/dv 4294967296 V*dv 4294967296 V*4294967296^j=dv 4294967296 U) ?_ ?_
  ·by_cases hcase:c+br≤w0
   ·have hX0:X/2^63=0∧X%4294967296=w0-c-br:=zo
    rw [za (by show Value.bool _=_;rw [hX0.1];rfl)]
    refine zN ?_
    obtain ⟨r1,r2⟩:=zee zo dU hVpos hval5 hw0' hcase hge
    rw [hX0.2]
    exact zS (hh,_,_) ⟨rfl,rfl,rfl,rfl,rfl,rfl,rfl,trivial⟩ ⟨rfl,rfl,rfl,fun b hb=>(zh hb).trans (hbut5 b hb),ze _ _ _,by rw [←hX0.2];exact dU3,by show (U2.set _ _).length=_;rw [List.length_set];exact hU2l,r1,r2⟩
   have hX1:X/2^63=1∧X%4294967296+(c+br)=w0+4294967296:=zo
   rw [zc (by show Value.bool _=_;rw [hX1.1];rfl)]
   have h3:dv 4294967296 (U2.set (j+m+2) (X%4294967296))+hh*dv 4294967296 V*4294967296^j=dv 4294967296 U+4294967296*4294967296^(j+m+2):=by
    have q1:=pg (B:=4294967296) (X%4294967296) hw0'
    have q2:(X%4294967296+(c+br))*4294967296^(j+m+2)=(w0+4294967296)*4294967296^(j+m+2):=by rw [hX1.2]
    rw [Nat.add_mul,Nat.add_mul w0] at q2
    omega
   have hx3:(U2.set (j+m+2) (X%4294967296))[j+m+2]?=some (X%4294967296):=by rw [List.getElem?_set_self zo]
   have hz3:dv 4294967296 ((U2.set (j+m+2) (X%4294967296)).drop (j+m+2+1))=0:=by rw [List.drop_set_of_lt zo];exact hz2
   have hT:dv 4294967296 (U2.set (j+m+2) (X%4294967296))<4294967296*4294967296^(j+m+2):=by
    rw [zfi hx3 hz3]
    have q1:=yY dU3 (show j+m+2≤(U2.set (j+m+2) (X%4294967296)).length by rw [List.length_set];omega)
    have q2:(X%4294967296+1)*4294967296^(j+m+2)≤4294967296*4294967296^(j+m+2):=Nat.mul_le_mul_right _ zo
    rw [Nat.add_mul,Nat.one_mul] at q2
    omega
   have hhQ:=zhc (sO 4294967296 U j zo) hVpos h3 hT hub
   have hh1:1≤hh:=by rw [hhQ];exact Nat.le_add_left _ _
   generalize hU3:U2.set (j+m+2) (X%4294967296)=U3 at*
   have hU3l:U3.length=U.length:=by rw [←hU3,List.length_set];exact hU2l
   simp only [yd,z5,zZ,yc,zk]
   repeat refine zU ?_
   simp only [yd,z5,zZ,yc,zk]
   repeat refine zR ?_
   simp only [yd,z5,zZ,yc,zk]
   repeat refine zR ?_
   simp only [yd,z5,zZ,yc,zk]
   rw [←hU3l]
   refine zfp (sv:=sv) (qv:=.slice (some ⟨bq,0,none⟩) (M+1) (M+1)) (U:=U3) (V:=V) (j:=j) (hh:=hh-1) (h:=upd h5 bu (some (.row (u32s U3) e))) (hV2.keep (fun a l cc ee=>by injection ee with e1;injection e1 with e1;subst e1;exact (zh hd.1).trans (hbut5 _ hd.1)) (Nat.le_refl _)) hd.1 hnew.1 (ze _ _ _) dV dU3 zo rfl ⟨rfl,rfl,rfl,rfl,rfl,rfl,rfl,rfl,rfl,trivial⟩ ?_
   rintro c2 U4 t6 h6 hl6 hbut6 hrow6 dU4 hU4l hc2 hdr6 hval6
   rw [←yM hl6]
   clear hl6
   rw [hi] at hdr6 hval6
   have hx4:U4[j+m+2]?=some (X%4294967296):=by
    have:(U4.drop (j+m+2))[0]?=(U3.drop (j+m+2))[0]?:=by rw [hdr6]
    rw [List.getElem?_drop,List.getElem?_drop,Nat.add_zero] at this
    rw [this];exact hx3
   have hz4:dv 4294967296 (U4.drop (j+m+2+1))=0:=by
    have:=congrArg (List.drop 1) hdr6
    rw [List.drop_drop,List.drop_drop] at this
    rw [this];exact hz3
   obtain ⟨r1,r2,r3⟩:=zed zo dU hVpos (by
    have q1:dv 4294967296 V*4294967296^j≤4294967296^V.length*4294967296^j:=Nat.mul_le_mul_right _ zo
    rw [←Nat.pow_add,hi] at q1
    exact q1) dU3 dU4 hx3 hz3 hx4 hz4 h3 hval6 hub
   have hU6:Sl h6 n1 1 (.slice (some ⟨bu,0,none⟩) U3.length U3.length) (u32s U4):=Sl.own hrow6 hnew.1.2 hU4l (Nat.le_refl _)
   simp only [yd,z5,zZ,yc,zk]
   repeat refine zR ?_
   refine z6 (j:=j+m+2) R7 hU6 ⟨rfl,zo⟩ hx4 (fun _=>rfl) R4 fun _=>?_
   refine zM ?_
   refine s7 (c:=c2) R7 zo ?_
   refine kc (a:=X%4294967296) (b:=c2) rfl rfl rfl rfl rfl rfl ?_
   rw [r2]
   refine y5 (j:=j+m+2) (v:=.int .u32 ((0:Nat):Int)) R8 zo (by rw [ya];omega) hrow6 hnew.1.1 (fun _=>rfl) R3 (fun _=>rfl) rfl fun _=>?_
   rw [xk]
   refine zN ?_
   exact zS (hh-1,_,_) ⟨rfl,rfl,rfl,rfl,rfl,rfl,rfl,trivial⟩ ⟨rfl,rfl,rfl,fun b hb=>(zh hb).trans ((hbut6 b hb).trans ((zh hb).trans (hbut5 b hb))),ze _ _ _,rp dU4 zo,by show (U4.set _ _).length=_;rw [List.length_set];exact hU4l,by show hh-1=_;omega,r3⟩
  rintro ⟨q,Uf,g⟩ t7 _ _ _ ⟨rfl,rfl,rfl,hbutf,hrowf,dUf,hUfl,hqe,hvalf⟩
  simp only at hbutf hrowf dUf hUfl hqe hvalf
  subst hqe
  generalize hqq:dv 4294967296 (U.drop j)/dv 4294967296 V=q at*
  have hrq3:g bq=some (.row (u32s (List.replicate (j+1) 0++Qd)) eq):=by rw [hbutf bq (Ne.symm hd.2.2)];exact hrq2
  refine zN ?_
  repeat refine zU ?_
  refine y5 (j:=j) (v:=.int .u32 (q:Int)) R8 rfl (by rw [ya];simp;omega) hrq3 hnew.2.1 (fun _=>rfl) R3 (fun _=>rfl) rfl fun _=>?_
  rw [xk,zea]
  refine zN ?_
  repeat refine zR ?_
  refine zN ?_
  refine goOn (j,Uf,q::Qd) (by show j<j+1;omega) ⟨rfl,rfl,by show Value.slice _ _ _=Value.slice _ _ _;rw [hUl2],rfl,rfl,rfl,trivial⟩ ⟨rfl,rfl,fun b h1 h2'=>(zh h2').trans ((hbutf b h1).trans (hoth b h1 h2')),(zh hd.2.2).trans hrowf,ze _ _ _,dUf,fun d hd'=>?_,hUfl,by show j+(q::Qd).length=M+1;simp;omega,?_,?_⟩
  ·rcases List.mem_cons.1 hd' with rfl|hd'
   ·exact hQB
   exact dQ d hd'
  ·show dv 4294967296 Uf+dv 4294967296 V*dv 4294967296 (q::Qd)*4294967296^j=dv 4294967296 U0
   rw [←hval,←hvalf]
   simp only [dv]
   rw [Nat.pow_succ (n:=4294967296),Nat.mul_add,Nat.add_mul,Nat.mul_comm q,Nat.add_assoc]
   congr 2
   rw [Nat.mul_assoc,Nat.mul_assoc,Nat.mul_assoc,Nat.mul_comm 4294967296 (dv 4294967296 Qd*4294967296^j),Nat.mul_assoc (dv 4294967296 Qd)]
  show dv 4294967296 (Uf.drop j)<dv 4294967296 V
  have p1:=sO 4294967296 Uf j zo
  have p2:=sO 4294967296 U j zo
  have p3:=yY dU (show j≤U.length by omega)
  have p4:dv 4294967296 (U.drop j)<(q+1)*dv 4294967296 V:=by
   rw [←hqq,Nat.mul_comm]
   exact Nat.lt_mul_div_succ _ hVpos
  have p5:dv 4294967296 (Uf.drop j)*4294967296^j<dv 4294967296 V*4294967296^j:=by
   have p6:(dv 4294967296 (U.drop j)+1)*4294967296^j≤(q+1)*dv 4294967296 V*4294967296^j:=Nat.mul_le_mul_right _ p4
   rw [Nat.add_mul,Nat.one_mul,Nat.add_mul q,Nat.one_mul,Nat.add_mul] at p6
   omega
  exact xw p5
end
def DivR (n:Nat)(h:HF)(A C:List Nat)(v:Value)(h':HF)(n':Nat)(w:List Nat):Prop:=w=[]∧n≤n'∧Ext n h h'∧∃aq cq Lq ar cr Lr,v=.tuple #[.slice aq (List.length Lq) cq,.slice ar (List.length Lr) cr]∧Sl h' n' 1 (.slice aq Lq.length cq) (u32s Lq)∧Sl h' n' 1 (.slice ar Lr.length cr) (u32s Lr)∧Norm Lq∧Norm Lr∧val Lq=val A/val C∧val Lr=val A%val C∧ym n (.slice aq Lq.length cq)∧ym n (.slice ar Lr.length cr)
theorem Norm.len_le {A B:List Nat}(hA:Norm A)(hB:Norm B)(h:val B≤val A):B.length≤A.length:=by
 apply Classical.byContradiction
 intro hn
 have:=hA.len_lt hB zo
 omega
theorem bE {a b q r P:Nat}(hP:0<P)(hb:0<b)(h:r+b*P*q=a*P)(hr:r<b*P):q=a/b∧r=a%b*P:=by
 have e1:a*P/(b*P)=a/b:=Nat.mul_div_mul_right _ _ hP
 have e2:a*P%(b*P)=a%b*P:=Nat.mul_mod_mul_right _ _ _
 rw [←e1,←e2,←h,Nat.add_mul_div_left _ _ (Nat.mul_pos hb hP),Nat.div_eq_of_lt hr,Nat.add_mul_mod_self_left,Nat.mod_eq_of_lt hr]
 exact ⟨zo,rfl⟩
theorem u9:∀l:List Nat,l.take (zT l).length=zT l:=
 xn (fun l ih=>by rw [yJ,List.take_append_of_le_length (yU l)];exact ih) (fun l d hd=>by rw [yN l hd,List.take_length]) rfl
section
variable {k n:Nat}{h:HF}{t:TF}{a1 a2:Option Addr}{c1 c2:Nat}{A C:List Nat}{m:Nat}
set_option maxRecDepth 100000
theorem zfn (hA:Sl h n 1 (.slice a1 A.length c1) (u32s A))(hC:Sl h n 1 (.slice a2 C.length c2) (u32s C))(nA:Norm A)(nC:Norm C)(hCl:C.length=m+2)(hb:A.length<1000000000)(hle:val C≤val A)
  {c:Code}(hc:tw Tryz.f190 [1,1,1]=some c)(hL:wz t [(0,.slice a1 A.length c1),(1,.slice a2 C.length c2)]):EC (ctx (k+2) n (Tryz.f190).ntmps) c ⟨t,h,n,[]⟩ (RetH Tryz.f190 (DivR n h A C)):=by
 obtain rfl:=Option.some.inj (hc.symm.trans (rfl:tw Tryz.f190 [1,1,1]=some _))
 clear hc
 rw [←yM hL]
 clear hL
 have hll:=nA.len_le nC hle
 obtain ⟨top,htop⟩:∃x,C[m+1]?=some x:=⟨C[m+1]'zo,List.getElem?_eq_getElem zo⟩
 have btop:top<4294967296:=nC.1 top (List.mem_of_getElem? htop)
 have htop0:top≠0:=by
  have e:=xW htop
  rw [List.take_of_length_le zo] at e
  have h1:=nC
  rw [e] at h1
  exact h1.last
 refine zN ?_
 repeat refine zR ?_
 refine zN ?_
 refine zV (α:=Nat) (fun s=>[(0,.slice a1 A.length c1),(1,.slice a2 C.length c2),(8,.int .u64 (s:Int))]) (fun s h' n' w'=>h=h'∧n=n'∧w'=[]∧s<32∧top*2^s<4294967296) (fun s=>32-s) 0 ⟨rfl,rfl,rfl,trivial⟩ ⟨rfl,rfl,rfl,by decide,by show top*2^0<_;omega⟩ (by show 32-0<LL;decide) ?_
 rintro s t2 _ _ _ ⟨rfl,rfl,rfl,hs,hts⟩
 refine zN ?_
 repeat refine zR ?_
 refine z6 (j:=m+1) R7 hC ⟨rfl,zo⟩ htop (fun _=>rfl) R4 fun _=>?_
 refine zM ?_
 refine gr (a:=top) (s:=s) rfl rfl rfl rfl rfl rfl zo ?_
 rw [Nat.mod_eq_of_lt hts]
 by_cases hbig:top*2^s<2147483648
 ·have h2:top*2^(s+1)=top*2^s*2:=by rw [Nat.pow_succ,Nat.mul_assoc]
  have hs1:s+1<32:=by
   apply Classical.byContradiction
   intro hn
   have h31:s=31:=zo
   subst h31
   have:1*2^31≤top*2^31:=Nat.mul_le_mul_right _ zo
   omega
  repeat refine zR ?_
  refine zN ?_
  rw [zc rfl]
  refine zN ?_
  refine zM ?_
  refine yA (a:=s) (b:=1) R6 zo ?_
  repeat refine zR ?_
  refine zN ?_
  exact goOn (s+1) (by show 32-(s+1)<32-s;omega) ⟨rfl,rfl,rfl,trivial⟩ ⟨rfl,rfl,rfl,hs1,by show top*2^(s+1)<_;omega⟩
 repeat refine zR ?_
 refine zN ?_
 rw [za rfl]
 refine zN ?_
 have hbig':2147483648≤top*2^s:=zo
 have hp:0<2^s:=Nat.pow_pos zo
 have hp31:2^s≤2147483648:=show 2^s≤2^31 from Nat.pow_le_pow_right zo zo
 repeat refine zR ?_
 refine zu _ R5 (rO (k+1) hC nC.1 zo hs) ?_
 rintro _ h1 _ _ ⟨rfl,rfl,hx1,L,e1,rfl,hr1,hL1,dL,vL⟩
 obtain ⟨v1,v2,eT,hv1,hv2,b1,b1',b2,vV⟩:=zd9 hCl nC.1 htop hbig' hts hs hL1 dL vL
 have htr:=wV (k+1) (l:=L) (h:=h1) (n:=n+1) zo (Sl.own hr1 zo hL1 (Nat.le_refl _))
 rw [eT] at htr
 refine zu _ R5 htr ?_
 rintro _ _ _ _ ⟨e2,e3,rfl,rfl,hsV⟩
 subst e2 e3
 have hVl:(L.take (m+2)).length=m+2:=by rw [List.length_take];omega
 have dV:Dig (L.take (m+2)):=fun d hd=>dL d (List.mem_of_mem_take hd)
 generalize L.take (m+2)=V at*
 repeat refine zR ?_
 refine zN ?_
 repeat refine zR ?_
 refine zu _ R5 (rO (k+1) (hA.ext hx1 (Nat.le_succ n)) nA.1 zo hs) ?_
 rintro _ h2 _ _ ⟨rfl,rfl,hx2,U0,e4,rfl,hr2,hL2,dU0,vU⟩
 repeat refine zR ?_
 refine zN ?_
 repeat refine zR ?_
 refine zN ?_
 repeat refine zR ?_
 refine zN ?_
 obtain ⟨M,hM⟩:∃M,M=A.length-C.length:=⟨_,rfl⟩
 repeat refine zR ?_
 refine xD (len:=M+1) (cap:=M+1) ⟨rfl,rfl,rfl,rfl,rfl,rfl,(by show Value.int .i64 _=Value.int .i64 _;congr 1;omega),(by show Value.int .i64 _=Value.int .i64 _;congr 1;omega),rfl⟩ zo ?_
 rw [show zl (Value.int .u32 0)=[Value.int .u32 0] from rfl,so]
 repeat refine zR ?_
 simp only [yd,z5,zZ,yc,zk]
 repeat refine zR ?_
 simp only [yd,z5,zZ,yc,zk]
 have hU0l:U0.length=A.length+1:=hL2
 have hstart:dv 4294967296 (U0.drop (M+1))<dv 4294967296 V:=by
  obtain ⟨tt,htt⟩:∃x,U0[A.length]?=some x:=⟨U0[A.length]'zo,List.getElem?_eq_getElem zo⟩
  have p1:=zQ (B:=4294967296) htt
  rw [List.take_of_length_le zo] at p1
  have p2:=nz (B:=4294967296) nA.1
  have p3:tt<2^s:=by
   have q1:tt*4294967296^A.length<2^s*4294967296^A.length:=by
    have q2:dv 4294967296 A*2^s<4294967296^A.length*2^s:=Nat.mul_lt_mul_of_pos_right p2 hp
    rw [Nat.mul_comm (4294967296^A.length) (2^s)] at q2
    rw [Nat.mul_comm tt]
    omega
   exact xw q1
  have hxl:(U0.drop (M+1)).length=m+2:=by rw [List.length_drop];omega
  have hx1':(U0.drop (M+1))[m+1]?=some tt:=by rw [List.getElem?_drop,show M+1+(m+1)=A.length from zo];exact htt
  have p4:=zQ (B:=4294967296) hx1'
  rw [List.take_of_length_le zo] at p4
  have p5:dv 4294967296 ((U0.drop (M+1)).take (m+1))<4294967296^(m+1):=yY (fun d hd=>dU0 d (List.mem_of_mem_drop hd)) zo
  have p6:=zQ (B:=4294967296) hv1
  rw [List.take_of_length_le zo] at p6
  have p7:(tt+1)*4294967296^(m+1)≤v1*4294967296^(m+1):=Nat.mul_le_mul_right _ zo
  rw [Nat.add_mul,Nat.one_mul] at p7
  rw [p4,p6,Nat.mul_comm _ tt,Nat.mul_comm _ v1]
  omega
 have hV3:Sl (upd h2 (3*(n+1+1)+2) (some (.row (u32s (List.replicate (M+1) 0)) 172))) (n+1+1+1) 1 (.slice (some ⟨3*n+2,0,none⟩) V.length (C.length+1)) (u32s V):=(hsV.ext hx2 zs).ext (Ext.upd zo) zs
 refine zbv (sv:=.int .u64 (s:Int)) (bv:=3*n+2) (bu:=3*(n+1)+2) (bq:=3*(n+1+1)+2) (V:=V) (U0:=U0) (m:=m) (M:=M) hV3 zo zo ((zh zo).trans hr2) (ze _ _ _) dV dU0 hVl zo zo hv1 hv2 ⟨b1,b1'⟩ b2 hstart rfl ⟨rfl,rfl,by rw [hU0l];rfl,rfl,rfl,by show Value.int .i64 _=Value.int .i64 _;congr 1;omega,trivial⟩ ?_
 rintro U Qd t4 h4 hl4 hoth hru hrq dU dQ hUl hQl hval hlt
 rw [←yM hl4]
 clear hl4
 have hVub:=nz (B:=4294967296) dV
 rw [hVl] at hVub
 obtain ⟨_,htk⟩:=kZ (l:=U) (n:=m+2) zo (show dv 4294967296 U<4294967296^(m+2) by omega)
 have hCpos:0<dv 4294967296 C:=by rw [←xi];exact nC.pos (by intro e;rw [e] at hCl;simp at hCl)
 obtain ⟨hq,hrem⟩:=bE (a:=dv 4294967296 A) (b:=dv 4294967296 C) (q:=dv 4294967296 Qd) (r:=dv 4294967296 U) hp hCpos (by rw [←vV,hval,vU]) (by rw [←vV];exact hlt)
 have hUs:Sl h4 (n+1+1+1) 1 (.slice (some ⟨3*(n+1)+2,0,none⟩) U0.length U0.length) (u32s U):=Sl.own hru zo hUl (Nat.le_refl _)
 have hUt:=hUs.take V.length zo
 rw [Nat.mul_one,show (u32s U).take V.length=u32s (U.take (m+2)) from by rw [u32s,u32s,List.map_take,hVl]] at hUt
 have hext4:Ext n h h4:=fun b hb=>by rw [hoth b zo zo,zh zo,hx2 b zo,hx1 b hb]
 simp only [yd,z5,zZ,yc,zk]
 repeat refine zR ?_
 refine vN V.length R8 rfl zo ?_
 have htr2:=wV (k+1) (l:=U.take (m+2)) (by rw [List.length_take];omega) hUt
 refine zu _ R5 htr2 ?_
 rintro _ _ _ _ ⟨e5,e6,rfl,rfl,hsR⟩
 subst e5 e6
 have hRt:zT (U.take (m+2))=U.take (zT (U.take (m+2))).length:=by
  have q1:=u9 (U.take (m+2))
  have q2:=yU (U.take (m+2))
  rw [List.length_take] at q2
  rw [List.take_take,Nat.min_eq_left zo] at q1
  exact q1.symm
 have hRv:dv 4294967296 (zT (U.take (m+2)))=dv 4294967296 U:=by rw [←xi,xE,xi,htk]
 have hRl:=yU (U.take (m+2))
 rw [List.length_take] at hRl
 have dR:Dig (zT (U.take (m+2))):=qD _ fun d hd=>dU d (List.mem_of_mem_take hd)
 generalize hR:zT (U.take (m+2))=R at*
 have hUR:U=R++U.drop R.length:=by
  conv=>lhs;rw [←List.take_append_drop R.length U]
  rw [←hRt]
 rw [hUR] at hru
 repeat refine zR ?_
 simp only [yd,z5,zZ,yc,zk]
 repeat refine zR ?_
 simp only [yd,z5,zZ,yc,zk]
 refine zbw (qv:=.slice (some ⟨3*(n+1+1)+2,0,none⟩) (M+1) (M+1)) (bu:=3*(n+1)+2) (R:=R) (T:=U.drop R.length) (s:=s) zo hru dR zo hs rfl ⟨rfl,rfl,rfl,rfl,trivial⟩ ?_
 rintro D t5 h5 hl5 hbut5 hrow5 dD hDl hDv
 rw [←yM hl5]
 clear hl5
 have hR0:(R[0]?).getD 0%2^s=0:=by
  have q1:dv 4294967296 R%2^s=0:=by rw [hRv,hrem];exact Nat.mul_mod_left _ _
  cases hR':R with
  |nil=>simp
  |cons x r=>
   rw [hR'] at q1
   simp only [dv] at q1
   rw [←uO (show s≤32 by omega),Nat.mul_assoc,Nat.add_mul_mod_self_left] at q1
   simpa using q1
 rw [hR0,Nat.add_zero,hRv,hrem] at hDv
 have hDv':dv 4294967296 D=dv 4294967296 A%dv 4294967296 C:=Nat.eq_of_mul_eq_mul_right hp hDv
 have hrq5:h5 (3*(n+1+1)+2)=some (.row (u32s Qd) _):=(hbut5 _ zo).trans hrq
 have htq:=wV (k+1) (l:=Qd) (h:=h5) (n:=n+1+1+1) zo (Sl.own hrq5 zo hQl (Nat.le_refl _))
 have htd:=wV (k+1) (l:=D) (h:=h5) (n:=n+1+1+1) zo (Sl.pre hrow5 zo hDl (show R.length≤U0.length by omega))
 simp only [yd,z5,zZ,yc,zk]
 repeat refine zR ?_
 refine zu _ R5 htq ?_
 rintro _ _ _ _ ⟨e7,e8,rfl,rfl,hsq⟩
 subst e7 e8
 repeat refine zR ?_
 refine zu _ R5 htd ?_
 rintro _ _ _ _ ⟨e9,e10,rfl,rfl,hsd⟩
 subst e9 e10
 repeat refine zR ?_
 refine zN ?_
 refine retH [.slice (some ⟨3*(n+1+1)+2,0,none⟩) (zT Qd).length (M+1),.slice (some ⟨3*(n+1)+2,0,none⟩) (zT D).length U0.length] R3 ⟨rfl,by show n≤n+1+1+1;omega,fun b hb=>(hbut5 b zo).trans (hext4 b hb),_,_,zT Qd,_,_,zT D,rfl,hsq,hsd,Norm.trim dQ,Norm.trim dD,?_,?_,by show 3*n≤3*(n+1+1)+2;omega,by show 3*n≤3*(n+1)+2;omega⟩
 ·rw [xE,xi,xi,xi];exact hq
 rw [xE,xi,xi,xi];exact hDv'
end
section
theorem ze9 (n:Nat):gro (3*n+2)=false:=by
 unfold gro
 rw [show (3*n+2)%3=2 from zo]
 rfl
theorem fL {x:Value}(hu:E.und sT=some (.slice e))(hi:E.inf e=some (size,bytes,z))(hz:(zl z).length=size)(h1:1≤size∧1≤bytes)(hx:argS h size x m new)(hb:m*bytes≤1099511627776)(hg:gro b=false)(hl:new.length=m*size):
  ∃v' h' n',yE E h n sT (.slice (some ⟨b,0,none⟩) 0 0) x=some (.val v' h' n' [])∧n≤n'∧Ext n h h'∧(b<3*n→Sl h' n' size v' new)∧(∀lo,lo≤n→3*lo≤b→ym lo v')∧∃a,v'=.slice a m m:=by
 obtain ⟨hl',hc⟩:=hx
 have c1:Nat.ble (m*bytes) 1099511627776=true:=Nat.ble_eq_true_of_le hb
 have c2:Nat.beq (zl z).length size=true:=by rw [hz];exact Nat.beq_refl _
 have c3:Nat.ble 1 size=true:=Nat.ble_eq_true_of_le h1.1
 have c4:Nat.ble 1 bytes=true:=Nat.ble_eq_true_of_le h1.2
 by_cases hm:m=0
 ·subst hm
  have hn0:new=[]:=List.length_eq_zero_iff.1 (by rw [hl];simp)
  subst hn0
  refine ⟨.slice (some ⟨b,0,none⟩) 0 0,h,n,?_,Nat.le_refl _,Ext.refl _ _,fun hb=>.nil (.inr ⟨_,_,_,rfl,hb⟩),fun lo _ hlo=>hlo,_,rfl⟩
  simp only [yE,hu,hi,hl',hc,Nat.zero_add,c1,c2,c3,c4,Bool.and_self,show Nat.ble 0 0=true from rfl,vv]
 have c5:Nat.ble m 0=false:=by
  cases hb:Nat.ble m 0 with
  |false=>rfl
  |true=>have:=Nat.le_of_ble_eq_true hb;omega
 have c6:yh h size 0 (.slice (some ⟨b,0,none⟩) 0 0)=some []:=by simp [yh]
 refine ⟨.slice (some ⟨3*n+1,0,none⟩) m m,_,n+1,?_,Nat.le_succ _,Ext.upd (b:=3*n+1) (x:=some (.row new e)) zo,fun _=>.at_ zo (ze _ _ _) rfl (Nat.le_refl _) zo (by rw [List.drop_zero,List.take_of_length_le zo]),fun lo hlo _=>by show 3*lo≤3*n+1;omega,_,rfl⟩
 simp only [yE,hu,hi,hl',hc,Nat.zero_add,c1,c2,c3,c4,c5,c6,Bool.and_self,kH,hg,List.nil_append]
set_option maxRecDepth 100000
theorem mP (k:Nat)(hA:Sl h n 1 (.slice a1 l1 c1) (u32s A))(hC:Sl h n 1 (.slice a2 l2 c2) (u32s C))(nA:Norm A)(nC:Norm C)(hC0:C≠[])(hb:A.length<1000000000):
  CF (cal (k+3)) 190 [.slice a1 l1 c1,.slice a2 l2 c2] h n (DivR n h A C):=by
 refine zr (fn:=Tryz.f190) R4 ?_
 have e1:=hA.lenU
 have e2:=hC.lenU
 subst e1 e2
 have hCpos:=nC.pos hC0
 refine zN ?_
 repeat refine zR ?_
 refine zN ?_
 repeat refine zR ?_
 refine yg _ R5 (mX (k+1) hA hC nA nC zo) ?_
 rintro _ rfl
 by_cases hlt:val A<val C
 ·rw [vh hlt]
  repeat refine zR ?_
  refine zN ?_
  rw [zc rfl]
  refine zN ?_
  refine vO (cs:=[]) R5 ?_
  repeat refine zR ?_
  obtain ⟨v',h',n',g1,g2,g3,g4,g5,a',rfl⟩:=fL (E:=env) (h:=upd h (3*n+2) (some (.row [] 172))) (n:=n+1) (sT:=71) (b:=3*n+2) rfl rfl rfl zd (vI (hA.ext (Ext.upd zo) (Nat.le_succ n))) zo (ze9 n) (by rw [ya,Nat.mul_one])
  refine xq R5 g1 ?_
  repeat refine zR ?_
  refine zN ?_
  refine retH [.slice none 0 0,.slice a' A.length A.length] R3 ⟨rfl,by show n≤n';omega,(Ext.upd zo).trans g3 (Nat.le_succ n),none,0,[],a',_,A,rfl,.nil (.inl rfl),g4 zo,Norm.nil,nA,?_,?_,trivial,g5 n (Nat.le_succ n) zo⟩
  ·rw [Nat.div_eq_of_lt hlt];rfl
  rw [Nat.mod_eq_of_lt hlt]
 have hz:0≤cmpZ (val A) (val C):=by
  unfold cmpZ
  rw [if_neg hlt]
  split<;>decide
 generalize cmpZ (val A) (val C)=cz at hz
 repeat refine zR ?_
 refine zN ?_
 rw [za rfl]
 refine zN ?_
 by_cases hone:C.length=1
 ·obtain ⟨d,rfl⟩:∃d,C=[d]:=List.length_eq_one_iff.1 hone
  have hd0:d≠0:=nC.last (l:=[])
  have hdB:d<4294967296:=nC.1 d (by simp)
  have hvC:val [d]=d:=by simp [val]
  repeat refine zR ?_
  refine zN ?_
  rw [zc rfl]
  refine zN ?_
  repeat refine zR ?_
  refine z6 (j:=0) (dv:=d) R7 hC R2 rfl (fun _=>rfl) R4 fun _=>?_
  refine zu _ R5 (qN k (d:=d) zo nA.1 zo hA) ?_
  rintro _ h1 n1 _ ⟨rfl,hn1,hx1,a',c',L,rfl,hsL,nL,hvL,hfL,_⟩
  repeat refine zR ?_
  refine zN ?_
  repeat refine zR ?_
  refine vO (cs:=[.int .u32 ((val A%d:Nat):Int)]) R5 ?_
  have htr:=wV (k+1) (l:=[val A%d]) (h:=upd h1 (3*n1+2) (some (.row [.int .u32 ((val A%d:Nat):Int)] 172))) (n:=n1+1) (by simp) (Sl.own (O:=[val A%d]) (ze _ _ _) zo rfl (Nat.le_refl _))
  refine zu _ R5 htr ?_
  rintro _ _ _ _ ⟨e5,e6,rfl,rfl,hsR⟩
  subst e5 e6
  repeat refine zR ?_
  refine zN ?_
  have hmod:val A%d<d:=Nat.mod_lt _ zo
  refine retH [.slice a' L.length c',.slice (some ⟨3*n1+2,0,none⟩) (zT [val A%d]).length 1] R3 ⟨rfl,by show n≤n1+1;omega,hx1.trans (Ext.upd zo) hn1,a',c',L,_,_,zT [val A%d],rfl,hsL.ext (Ext.upd zo) zs,hsR,nL,Norm.trim (fun x hx=>by simp at hx;omega),by rw [hvL,hvC],?_,hfL,by show 3*n≤3*n1+2;omega⟩
  rw [xE,hvC]
  simp [val]
 have hlen0:C.length≠0:=fun e=>hC0 (List.length_eq_zero_iff.1 e)
 obtain ⟨m,hm⟩:∃m,C.length=m+2:=⟨C.length-2,zo⟩
 repeat refine zR ?_
 simp only [zZ,yc,zk,yd]
 rw [za rfl]
 simp only [zZ,zk]
 exact zfn hA hC nA nC hm hb zo rfl ⟨rfl,rfl,trivial⟩
end
section
section
variable {X:CtxF}{ops r:List Oper}{t:TF}{h:HF}{n:Nat}{w:List Nat}{Q:SV→Prop}{o:Oper}{d:Tmp}
theorem st_mul {ty ty':TypeId}{x y:Operand}{a b:Int}(hw:zg ops t o=true)(hd:o.dst=some d)(hn:zm X.nt (some d)=true)(ho:o.op=.binOp .mul ty x y ty')(hx:evF t x=.int .i64 a)(hy:evF t y=.int .i64 b)(hr: -9223372036854775808≤a*b∧a*b<9223372036854775808)
  (k:EO X ops r ⟨upd t d (.int .i64 (a*b)),h,n,w⟩ Q):EO X ops (o::r) ⟨t,h,n,w⟩ Q:=by
 refine zF ⟨hw,hd,hn,(by rw [ho];rfl)⟩ ?_ k
 rw [ho]
 show binE X.E .mul ty (evF t x) (evF t y)=_
 rw [hx,hy]
 show some (Value.int .i64 (IntKind.wrap .i64 (a*b)))=_
 rw [wA hr]
end
theorem ai (k:Nat){h:HF}{n:Nat}{c1 c2:Value}{x:Int}{l:List Nat}(hi:IntR h n c1 c2 x l)(hb:l.length<1000000000):VF (cal (k+1)) 159 [.agg #[c1,c2]] h n fun v=>∃b:Nat,v=.int .i64 (b:Int)∧(b=0↔x.natAbs=0)∧(b=1↔x.natAbs=1):=by
 refine zA (fn:=Tryz.f159) R4 ?_
 obtain ⟨rfl,hsl,hnorm,hval⟩:=hi
 obtain ⟨a,len,cap,rfl,_⟩:=hsl.len
 have e1:=hsl.lenU
 subst e1
 refine zN ?_
 refine wW (cs:=[.bool (decide (x<0)),.slice a l.length cap]) R5 ?_
 repeat refine zR ?_
 refine zN ?_
 repeat refine zR ?_
 refine zC R6 (ze _ _ _) (v:=.slice a l.length cap) R2 ?_
 by_cases h0:l=[]
 ·subst h0
  repeat refine zR ?_
  refine zN ?_
  rw [zc rfl]
  refine zN ?_
  repeat refine zR ?_
  refine zN ?_
  refine retF _ rfl (zi rfl) R2 ⟨0,rfl,?_,?_⟩<;>rw [←hval]<;>simp [val]
 obtain ⟨i,top,rfl⟩:=snoc h0
 have ht0:top≠0:=hnorm.last
 have htB:top<4294967296:=hnorm.1 top (by simp)
 have hll:(i++[top]).length=i.length+1:=by simp
 rw [hll] at hb hsl
 simp only [hll]
 have hsl1:=hsl.ext (Ext.upd (b:=3*n+2) (x:=some (.row [.bool (decide (x<0)),.slice a (i.length+1) cap] 73)) zo) (Nat.le_succ n)
 repeat refine zR ?_
 refine zN ?_
 rw [za rfl]
 refine zN ?_
 repeat refine zR ?_
 refine zC R6 (ze _ _ _) (v:=.slice a (i.length+1) cap) R2 ?_
 refine zM ?_
 refine tz R6 zo ?_
 refine st_mul rfl rfl rfl rfl rfl rfl zo ?_
 repeat refine zR ?_
 refine zN ?_
 repeat refine zR ?_
 refine zC R6 (ze _ _ _) (v:=.slice a (i.length+1) cap) R2 ?_
 repeat refine zR ?_
 refine zC R6 (ze _ _ _) (v:=.slice a (i.length+1) cap) R2 ?_
 repeat refine zR ?_
 refine z6 (j:=i.length) (dv:=top) R7 hsl1 ⟨rfl,zo⟩ (by simp) (fun _=>rfl) R4 fun _=>?_
 repeat refine zR ?_
 refine zN ?_
 generalize hh1:upd h (3*n+2) _=h1
 refine zV (α:=Nat×Nat) (fun z=>[(3,.int .i64 ((32*i.length+z.1:Nat):Int)),(4,.int .u32 (z.2:Int))]) (fun z h' n' w'=>n'=n+1∧w'=[]∧z.2=top/2^z.1∧(z.1=0∨top/2^(z.1-1)≠0)∧z.1≤32) (fun z=>33-z.1) (0,top) ⟨by show Value.int .i64 _=Value.int .i64 _;congr 1;omega,rfl,trivial⟩ ⟨rfl,rfl,by simp,.inl rfl,Nat.zero_le _⟩ (by show 33-0<LL;decide) ?_
 rintro ⟨c,tv⟩ t2 h2 _ _ ⟨rfl,rfl,htv,hmin,hc⟩
 simp only at htv hmin hc
 subst htv
 refine zN ?_
 by_cases hz:top/2^c=0
 ·repeat refine zR ?_
  refine zN ?_
  rw [za rfl]
  refine zN ?_
  repeat refine zR ?_
  refine zN ?_
  have hc0:c≠0:=fun e=>by rw [e,Nat.pow_zero,Nat.div_one] at hz;exact ht0 hz
  have hvv:x.natAbs=val i+4294967296^i.length*top:=by rw [←hval,u7];simp [val]
  refine retF _ rfl (zi rfl) R2 ⟨32*i.length+c,rfl,?_,?_⟩
  ·have hpos:0<4294967296^i.length*top:=Nat.mul_pos (Nat.pow_pos zo) zo
   omega
  have hpos:0<4294967296^i.length*top:=Nat.mul_pos (Nat.pow_pos zo) zo
  by_cases hi0:i.length=0
  ·rw [List.length_eq_zero_iff.1 hi0] at hvv ⊢
   simp only [val,List.length_nil,Nat.pow_zero,Nat.one_mul,Nat.zero_add,Nat.mul_zero] at hvv ⊢
   rw [hvv]
   constructor
   ·rintro rfl
    rw [Nat.pow_one] at hz
    omega
   rintro rfl
   rcases hmin with hm|hm
   ·exact absurd hm hc0
   apply Classical.byContradiction
   intro hn
   apply hm
   exact Nat.div_eq_of_lt (Nat.one_lt_two_pow zo)
  have h32:4294967296^1*1≤4294967296^i.length*top:=Nat.mul_le_mul (Nat.pow_le_pow_right zo zo) zo
  omega
 have hc32:c+1≤32:=by
  apply Classical.byContradiction
  intro hn
  have:c=32:=zo
  subst this
  exact hz (Nat.div_eq_of_lt htB)
 have hle:top/2^c≤top:=Nat.div_le_self _ _
 generalize htv:top/2^c=tv at hz hle ⊢
 repeat refine zR ?_
 refine zN ?_
 rw [zc rfl]
 refine zN ?_
 repeat refine zR ?_
 refine zN ?_
 refine zM ?_
 refine pV (a:=tv) (s:=1) R6 zo ?_
 repeat refine zR ?_
 refine zN ?_
 refine goOn (c+1,tv/2^1) (by show 33-(c+1)<33-c;omega) ⟨by show Value.int .i64 _=Value.int .i64 _;congr 1,rfl,trivial⟩ ⟨rfl,rfl,?_,.inr (by show top/2^(c+1-1)≠0;rw [Nat.add_sub_cancel,htv];exact hz),hc32⟩
 show tv/2^1=top/2^(c+1)
 rw [←htv,Nat.div_div_eq_div_mul,←Nat.pow_add]
end
section
theorem ri {a:Option Addr}{c:Nat}{x:Int}{neg:Bool}(hs:Sl h n 1 (.slice a L.length c) (u32s L))(hn:Norm L)(hv:val L=x.natAbs)(hneg:x≠0→neg=decide (x<0)):IntR h n (.bool (neg&&decide (0<L.length))) (.slice a L.length c) x L:=by
 refine ⟨?_,hs,hn,hv⟩
 have h0:=hn.zero
 rw [←List.length_eq_zero_iff] at h0
 by_cases hx:x=0
 ·have:¬0<L.length:=zo
  rw [decide_eq_false this,hx,Bool.and_false]
  rfl
 have:0<L.length:=zo
 rw [decide_eq_true this,Bool.and_true,hneg hx]
theorem dW (k:Nat){c1 c2:Value}{x:Int}{l:List Nat}(hi:IntR h n c1 c2 x l):CF (cal (k+2)) 157 [.agg #[c1,c2]] h n fun v h' n' w=>w=[]∧n≤n'∧Ext n h h'∧∃c1',v=.agg #[c1',c2]∧IntR h' n' c1' c2 (-x) l:=by
 refine zr (fn:=Tryz.f157) R4 ?_
 obtain ⟨rfl,hsl,hnorm,hval⟩:=hi
 obtain ⟨a,len,cap,rfl,_⟩:=hsl.len
 have e1:=hsl.lenU
 subst e1
 refine zN ?_
 refine wW (cs:=[.bool (decide (x<0)),.slice a l.length cap]) R5 ?_
 refine yp R5 ?_
 refine zN ?_
 generalize hh:upd (upd h (3*n+2) _) (3*(n+1)+2) _=h1
 have hp:∃e,h1 (3*n+2)=some (.row [.bool (decide (x<0)),.slice a l.length cap] e):=⟨_,by rw [←hh,zh zo,ze]⟩
 have hr:∃e,h1 (3*(n+1)+2)=some (.row [.bool false,.slice none 0 0] e):=⟨_,by rw [←hh,ze];rfl⟩
 have hx1:Ext n h h1:=by rw [←hh];intro b hb;rw [zh zo,zh zo]
 obtain ⟨ty1,hp⟩:=hp
 obtain ⟨ty2,hr⟩:=hr
 repeat refine zR ?_
 refine zC R6 hp (v:=.bool (decide (x<0))) R2 ?_
 repeat refine zR ?_
 refine zC R6 hp (v:=.slice a l.length cap) R2 ?_
 refine zu _ R5 (vu k _ _ (!decide (x<0)) a l.length cap) ?_
 rintro _ h2 n2 _ ⟨rfl,rfl,rfl,hx2⟩
 refine zI [.bool (!decide (x<0)&&decide (0<l.length)),.slice a l.length cap] R7 rfl (by rw [hx2 _ zo];exact hr) rfl (by show 3*n≤_;omega) ?_
 refine zN ?_
 have hext:Ext n h (upd h2 (3*(n+1)+2) (some (.row [.bool (!decide (x<0)&&decide (0<l.length)),.slice a l.length cap] ty2))):=fun b hb=>by rw [zh zo,hx2 b zo];exact hx1 b hb
 refine wp R5 (ze _ _ _) rfl ⟨rfl,by show n≤n+1+1+1;omega,hext,_,rfl,ri (hsl.ext hext zo) hnorm (by rw [hval];omega) (fun hx0=>?_)⟩
 by_cases hx:x<0
 ·rw [decide_eq_true hx,decide_eq_false zo];rfl
 rw [decide_eq_false hx,decide_eq_true zo];rfl
theorem zay {P:Value→HF→Nat→List Nat→Prop}{e:Ex}{t:TF}{a a2:Tmp}{ty2 e1:TypeId}{b2 sz2 bt2:Nat}{z2:Value}{cs2:List Value}(he:tN e=true)(hr:fn.results.toList=[.cell a ty,.cell a2 ty2])(ha:t a=.pointer (some ⟨b,0,none⟩))(ha2:t a2=.pointer (some ⟨b2,0,none⟩))(hg:GL.isAgg env ty=some true)(hg2:GL.isAgg env ty2=some true)(hi:env.inf ty=some (sz,bt,z))(hi2:env.inf ty2=some (sz2,bt2,z2))(hb:h b=some (.row cs e1))(hb2:h b2=some (.row cs2 e2))(hl:cs.length=sz)(hl2:cs2.length=sz2)(hp:P (.tuple #[.agg cs.toArray,.agg cs2.toArray]) h n w):RetH fn P e ⟨t,h,n,w⟩:=by
 refine retH [.agg cs.toArray,.agg cs2.toArray] ⟨he,?_,rfl⟩ hp
 rw [hr]
 have l1:=zL ⟨hg,hi⟩ hb rfl (show 0+sz≤cs.length by omega) (show (cs.drop 0).take sz=cs by rw [List.drop_zero,List.take_of_length_le zo])
 have l2:=zL ⟨hg2,hi2⟩ hb2 rfl (show 0+sz2≤cs2.length by omega) (show (cs2.drop 0).take sz2=cs2 by rw [List.drop_zero,List.take_of_length_le zo])
 simp only [resF,ha,ha2,l1,l2]
theorem mp (k:Nat){c1 c2:Value}{x y:Int}(hx:IntR h n c1 c2 x A)(hy:IntR h n d1 d2 y C)(hy0:y≠0)(hb:A.length<1000000000):
  CF (cal (k+4)) 160 [.agg #[c1,c2],.agg #[d1,d2]] h n fun v h' n' w=>w=[]∧n≤n'∧Ext n h h'∧∃q1 q2 r1 r2 Lq Lr,v=.tuple #[.agg #[q1,q2],.agg #[r1,r2]]∧IntR h' n' q1 q2 (x.tdiv y) Lq∧IntR h' n' r1 r2 (x.tmod y) Lr∧ym n q2∧ym n r2:=by
 refine zr (fn:=Tryz.f160) R4 ?_
 obtain ⟨rfl,hA,nA,vA⟩:=hx
 obtain ⟨rfl,hC,nC,vC⟩:=hy
 obtain ⟨a,la,ca,rfl,_⟩:=hA.len
 obtain ⟨c,lc,cc,rfl,_⟩:=hC.len
 have e1:=hA.lenU
 have e2:=hC.lenU
 subst e1 e2
 have hC0:C≠[]:=fun e=>hy0 (by have:=nC.zero.2 e;omega)
 refine zN ?_
 refine wW (cs:=[.bool (decide (x<0)),.slice a A.length ca]) R5 ?_
 refine wW (cs:=[.bool (decide (y<0)),.slice c C.length cc]) R5 ?_
 refine yp R5 ?_
 refine yp R5 ?_
 refine zN ?_
 generalize hh:upd (upd (upd (upd h (3*n+2) _) (3*(n+1)+2) _) (3*(n+1+1)+2) _) (3*(n+1+1+1)+2) _=h1
 have hp1:∃e,h1 (3*n+2)=some (.row [.bool (decide (x<0)),.slice a A.length ca] e):=⟨_,by rw [←hh,zh zo,zh zo,zh zo,ze]⟩
 have hp2:∃e,h1 (3*(n+1)+2)=some (.row [.bool (decide (y<0)),.slice c C.length cc] e):=⟨_,by rw [←hh,zh zo,zh zo,ze]⟩
 have hr1:∃e,h1 (3*(n+1+1)+2)=some (.row [.bool false,.slice none 0 0] e):=⟨_,by rw [←hh,zh zo,ze];rfl⟩
 have hr2:∃e,h1 (3*(n+1+1+1)+2)=some (.row [.bool false,.slice none 0 0] e):=⟨_,by rw [←hh,ze];rfl⟩
 have hx1:Ext n h h1:=by rw [←hh];intro b hb;rw [zh zo,zh zo,zh zo,zh zo]
 obtain ⟨t1,hp1⟩:=hp1
 obtain ⟨t2,hp2⟩:=hp2
 obtain ⟨t3,hr1⟩:=hr1
 obtain ⟨t4,hr2⟩:=hr2
 repeat refine zR ?_
 refine zC R6 hp1 (v:=.slice a A.length ca) R2 ?_
 repeat refine zR ?_
 refine zC R6 hp2 (v:=.slice c C.length cc) R2 ?_
 refine zu _ R5 (mP k (hA.ext hx1 (show n≤n+1+1+1+1 by omega)) (hC.ext hx1 (show n≤n+1+1+1+1 by omega)) nA nC hC0 hb) ?_
 rintro _ h2 n2 _ ⟨rfl,hn2,hx2,aq,cq,Lq,ar,cr,Lr,rfl,hsq,hsr,nq,nr,vq,vr,fq,fr⟩
 repeat refine zR ?_
 refine zN ?_
 refine zj [0,1,0,4,15,0,63,0,128,0,1023,2047,4095] rfl ?_
 have hp1':h2 (3*n+2)=_:=(hx2 _ zo).trans hp1
 have hp2':h2 (3*(n+1)+2)=_:=(hx2 _ zo).trans hp2
 repeat refine zD ?_
 refine yf R6 (z8 rfl hp1' (v:=.bool (decide (x<0))) R2) R2 ?_
 repeat refine zD ?_
 refine yf R6 (z8 rfl hp2' (v:=.bool (decide (y<0))) R2) R2 ?_
 refine dr_B (a:=decide (x<0) != decide (y<0)) R5 ?_
 repeat refine zD ?_
 refine uX _ R7 (vu (k+2) _ _ (decide (x<0) != decide (y<0)) aq Lq.length cq) ?_
 rintro _ h3 n3 _ ⟨rfl,rfl,rfl,hx3⟩
 refine ⟨rfl,zo,?_⟩
 repeat refine zD ?_
 refine yf R6 (z8 rfl hp1' (v:=.bool (decide (x<0))) R2) ⟨(qV (by simp)),rfl⟩ ?_
 repeat refine zD ?_
 refine uX _ R7 (vu (k+2) _ _ (decide (x<0)) ar Lr.length cr) ?_
 rintro _ h4 n4 _ ⟨rfl,rfl,rfl,hx4⟩
 refine ⟨rfl,zo,?_⟩
 have hr1':h4 (3*(n+1+1)+2)=_:=(hx4 _ zo).trans ((hx3 _ zo).trans ((hx2 _ zo).trans hr1))
 have hr2':h4 (3*(n+1+1+1)+2)=_:=(hx4 _ zo).trans ((hx3 _ zo).trans ((hx2 _ zo).trans hr2))
 refine xu (cs:=[.bool ((decide (x<0) != decide (y<0))&&decide (0<Lq.length)),.slice aq Lq.length cq]) R7 rfl hr1' zb (by show 3*n≤_;omega) R3 ?_
 refine xu (cs:=[.bool (decide (x<0)&&decide (0<Lr.length)),.slice ar Lr.length cr]) R7 rfl ((zh zo).trans hr2') zb (by show 3*n≤_;omega) R3 ?_
 refine zN ?_
 have hext:Ext n h (upd (upd h4 (3*(n+1+1)+2) (some (.row [.bool ((decide (x<0) != decide (y<0))&&decide (0<Lq.length)),.slice aq Lq.length cq] t3))) (3*(n+1+1+1)+2) (some (.row [.bool (decide (x<0)&&decide (0<Lr.length)),.slice ar Lr.length cr] t4))):=fun b hb=>by
  rw [zh zo,zh zo,hx4 b zo,hx3 b zo,hx2 b zo];exact hx1 b hb
 refine zay rfl rfl rfl rfl rfl rfl rfl rfl ((zh zo).trans (ze _ _ _)) (ze _ _ _) rfl rfl ⟨rfl,by show n≤n2+1+1;omega,hext,_,_,_,_,Lq,Lr,rfl,?_,?_,?_,?_⟩
 ·refine ri (((((hsq.ext hx3 zs).ext hx4 zs).old fq zo).old fq zo)) nq ?_ fun h0=>?_
  ·rw [vq,vA,vC,Int.natAbs_tdiv];rfl
  by_cases hx0:x<0<;>by_cases hy0:y<0
  ·rw [decide_eq_true hx0,decide_eq_true hy0,decide_eq_false (by have:=Int.tdiv_nonneg_of_nonpos_of_nonpos (a:=x) (b:=y) zo zo;omega)];rfl
  ·have h1:=Int.tdiv_nonneg (a:= -x) (b:=y) zo zo
   rw [Int.neg_tdiv] at h1
   rw [decide_eq_true hx0,decide_eq_false hy0,decide_eq_true zo];rfl
  ·have h1:=Int.tdiv_nonneg (a:=x) (b:= -y) zo zo
   rw [Int.tdiv_neg] at h1
   rw [decide_eq_false hx0,decide_eq_true hy0,decide_eq_true zo];rfl
  rw [decide_eq_false hx0,decide_eq_false hy0,decide_eq_false (by have:=Int.tdiv_nonneg (a:=x) (b:=y) zo zo;omega)];rfl
 ·refine ri (((((hsr.ext hx3 zs).ext hx4 zs).old fr zo).old fr zo)) nr ?_ fun h0=>?_
  ·rw [vr,vA,vC,Int.natAbs_tmod]
  by_cases hx0:x<0
  ·have h1:=Int.tmod_nonneg (a:= -x) y zo
   rw [Int.neg_tmod] at h1
   rw [decide_eq_true hx0,decide_eq_true zo]
  rw [decide_eq_false hx0,decide_eq_false (by have:=Int.tmod_nonneg (a:=x) y zo;omega)]
 ·exact fq.mono zo
 exact fr.mono zo
end
section
def EuI (m x y:Nat):Prop:=if m%2=0 then y<2^(m/2) else x<2^(m/2+1)∧y<x
theorem EuI.pos {x y:Nat}(h:EuI m x y)(hy:0<y):0<m:=by
 apply Classical.byContradiction
 intro hm
 have:m=0:=zo
 subst this
 unfold EuI at h
 simp at h
 omega
theorem zba {x y:Nat}(hy:0<y)(h:y<x):2*(x%y)<x:=by
 have h1:=Nat.mod_lt x hy
 have h2:=Nat.div_add_mod x y
 have h3:1≤x/y:=(Nat.le_div_iff_mul_le hy).2 zo
 have h4:y*1≤y*(x/y):=Nat.mul_le_mul_left y h3
 omega
theorem EuI.next {x y:Nat}(h:EuI (m+1) x y)(hy:0<y):EuI m y (x%y):=by
 unfold EuI at h ⊢
 by_cases hm:(m+1)%2=0
 ·rw [if_pos hm] at h
  rw [if_neg zo]
  rw [show m/2+1=(m+1)/2 from zo]
  exact ⟨h,Nat.mod_lt x hy⟩
 rw [if_neg hm] at h
 rw [if_pos zo]
 have h1:=zba hy h.2
 rw [show (m+1)/2+1=m/2+1 from zo,Nat.pow_succ] at h
 omega
def Off (b:Nat):Value→Prop
 | .slice (some a) _ _=>a.block≠b
 |_=>True
theorem Sl.off {x:Option BF}(s:Sl h n sz v c)(ho:Off b v):Sl (upd h b x) n sz v c:=
 s.keep (fun a l cap e=>by subst e;exact zh ho) (Nat.le_refl _)
theorem Below.off (h:Below m v)(hb:3*m≤b):Off b v:=by
 unfold Below at h
 unfold Off
 split<;>simp_all
 omega
theorem ym.off (h:ym m v)(hb:b<3*m):Off b v:=by
 unfold ym at h
 unfold Off
 split<;>simp_all
 omega
theorem zg5 (k:Nat){c1 c2:Value}{x y:Int}(hx:IntR h n c1 c2 x A)(hy:IntR h n d1 d2 y C)(hb:A.length<1000000000∧C.length<1000000000):
  CF (cal (k+4)) 158 [.agg #[c1,c2],.agg #[d1,d2]] h n fun v h' n' w=>w=[]∧n≤n'∧Ext n h h'∧∃g1 g2 L,v=.agg #[g1,g2]∧IntR h' n' g1 g2 ((Nat.gcd x.natAbs y.natAbs:Nat):Int) L∧L.length<1000000000∧∀b,b<3*n→Off b c2→Off b d2→Off b g2:=by
 refine zr (fn:=Tryz.f158) R4 ?_
 obtain ⟨rfl,hA,nA,vA⟩:=hx
 obtain ⟨rfl,hC,nC,vC⟩:=hy
 obtain ⟨a,la,ca,rfl,_⟩:=hA.len
 obtain ⟨c,lc,cc,rfl,_⟩:=hC.len
 have e1:=hA.lenU
 have e2:=hC.lenU
 subst e1 e2
 refine zN ?_
 refine wW (cs:=[.bool (decide (x<0)),.slice a A.length ca]) R5 ?_
 refine wW (cs:=[.bool (decide (y<0)),.slice c C.length cc]) R5 ?_
 refine yp R5 ?_
 refine zN ?_
 generalize hh:upd (upd (upd h (3*n+2) _) (3*(n+1)+2) _) (3*(n+1+1)+2) _=h1
 have hp1:∃e,h1 (3*n+2)=some (.row [.bool (decide (x<0)),.slice a A.length ca] e):=⟨_,by rw [←hh,zh zo,zh zo,ze]⟩
 have hp2:∃e,h1 (3*(n+1)+2)=some (.row [.bool (decide (y<0)),.slice c C.length cc] e):=⟨_,by rw [←hh,zh zo,ze]⟩
 have hr1:∃e,h1 (3*(n+1+1)+2)=some (.row [.bool false,.slice none 0 0] e):=⟨_,by rw [←hh,ze];rfl⟩
 have hx1:Ext n h h1:=by rw [←hh];intro b hb;rw [zh zo,zh zo,zh zo]
 obtain ⟨t1,hp1⟩:=hp1
 obtain ⟨t2,hp2⟩:=hp2
 obtain ⟨t3,hr1⟩:=hr1
 rw [xf rfl]
 repeat refine zR ?_
 refine zC R6 hp1 (v:=.slice a A.length ca) R2 ?_
 repeat refine zR ?_
 refine zC R6 hp2 (v:=.slice c C.length cc) R2 ?_
 repeat refine zR ?_
 refine zN ?_
 refine zV (α:=(Option Addr×Nat×List Nat)×(Option Addr×Nat×List Nat)×Nat) (fun z=>[(4,.pointer (some ⟨3*(n+1+1)+2,0,none⟩)),(5,.slice z.1.1 z.1.2.2.length z.1.2.1),(6,.slice z.2.1.1 z.2.1.2.2.length z.2.1.2.1)])
  (fun z h' n' w'=>n+1+1+1≤n'∧w'=[]∧Ext (n+1+1+1) h1 h'∧Sl h' n' 1 (.slice z.1.1 z.1.2.2.length z.1.2.1) (u32s z.1.2.2)∧Sl h' n' 1 (.slice z.2.1.1 z.2.1.2.2.length z.2.1.2.1) (u32s z.2.1.2.2)∧Norm z.1.2.2∧Norm z.2.1.2.2∧z.1.2.2.length<1000000000∧z.2.1.2.2.length<1000000000∧EuI z.2.2 (val z.1.2.2) (val z.2.1.2.2)∧Nat.gcd (val z.1.2.2) (val z.2.1.2.2)=Nat.gcd x.natAbs y.natAbs∧(∀b,b<3*(n+1+1+1)→Off b (.slice a A.length ca)→Off b (.slice c C.length cc)→Off b (.slice z.1.1 z.1.2.2.length z.1.2.1))∧(∀b,b<3*(n+1+1+1)→Off b (.slice a A.length ca)→Off b (.slice c C.length cc)→Off b (.slice z.2.1.1 z.2.1.2.2.length z.2.1.2.1))) (fun z=>z.2.2)
  ((a,ca,A),(c,cc,C),2*(32*C.length)) ⟨rfl,rfl,rfl,trivial⟩ ⟨by show n+1+1+1≤n+1+1+1;omega,rfl,Ext.refl _ _,hA.ext hx1 (show n≤n+1+1+1 by omega),hC.ext hx1 (show n≤n+1+1+1 by omega),nA,nC,hb.1,hb.2,?_,by rw [vA,vC],fun _ _ h1 _=>h1,fun _ _ _ h2=>h2⟩ (by show 2*(32*C.length)<LL;unfold LL;omega) ?_
 ·show EuI (2*(32*C.length)) (val A) (val C)
  unfold EuI
  rw [if_pos zo,show 2*(32*C.length)/2=32*C.length from zo,Nat.pow_mul]
  exact ec nC.1
 rintro ⟨⟨a',ca',A'⟩,⟨c',cc',C'⟩,m⟩ t h2 n2 _ ⟨hn2,rfl,hx2,hA',hC',nA',nC',bA',bC',hm,hg,oA,oC⟩
 simp only at hA' hC' nA' nC' bA' bC' hm hg oA oC
 refine zN ?_
 by_cases hC0:C'=[]
 ·subst hC0
  repeat refine zR ?_
  refine zN ?_
  rw [za rfl]
  refine zN ?_
  repeat refine zR ?_
  refine zu _ R5 (vu (k+2) _ _ false a' A'.length ca') ?_
  rintro _ h3 n3 _ ⟨rfl,rfl,rfl,hx3⟩
  refine zI [.bool (false&&decide (0<A'.length)),.slice a' A'.length ca'] R7 rfl (by rw [hx3 _ zo,hx2 _ zo];exact hr1) rfl (by show 3*n≤_;omega) ?_
  refine zN ?_
  have hext:Ext n h (upd h3 (3*(n+1+1)+2) (some (.row [.bool (false&&decide (0<A'.length)),.slice a' A'.length ca'] t3))):=fun b hb=>by rw [zh zo,hx3 b zo,hx2 b zo];exact hx1 b hb
  refine wp R5 (ze _ _ _) rfl ⟨rfl,by show n≤n2+1;omega,hext,_,_,A',rfl,ri ((hA'.ext hx3 zs).off (oA _ zo (hA.below.off zo) (hC.below.off zo))) nA' ?_ (fun h0=>?_),bA',fun b hb=>oA b zo⟩
  ·rw [←hg];simp [val]
  rw [decide_eq_false zo]
 have hl0:0<C'.length:=List.length_pos_iff.2 hC0
 have hpos:=nC'.pos hC0
 repeat refine zR ?_
 refine zN ?_
 rw [zc rfl]
 refine zN ?_
 repeat refine zR ?_
 refine zu _ R5 (mP k hA' hC' nA' nC' hC0 bA') ?_
 rintro _ h3 n3 _ ⟨rfl,hn3,hx3,aq,cq,Lq,ar,cr,Lr,rfl,hsq,hsr,nq,nr,vq,vr,fq,fr⟩
 repeat refine zR ?_
 refine zN ?_
 repeat refine zR ?_
 refine zN ?_
 have hm0:=hm.pos hpos
 obtain ⟨m',rfl⟩:∃m',m=m'+1:=⟨m-1,zo⟩
 have hlr:Lr.length≤C'.length:=nC'.len_le nr (by rw [vr];exact Nat.le_of_lt (Nat.mod_lt _ hpos))
 refine goOn ((c',cc',C'),(ar,cr,Lr),m') (by show m'<m'+1;omega) ⟨rfl,rfl,rfl,trivial⟩ ⟨by show n+1+1+1≤n3;omega,rfl,hx2.trans hx3 hn2,hC'.ext hx3 hn3,hsr,nC',nr,bC',by show Lr.length<1000000000;omega,?_,?_,oC,fun b hb _ _=>fr.off zo⟩
 ·show EuI m' (val C') (val Lr)
  rw [vr]
  exact hm.next hpos
 show Nat.gcd (val C') (val Lr)=_
 rw [vr,←hg,Nat.gcd_comm (val C'),←Nat.gcd_rec,Nat.gcd_comm]
end
section
theorem IntR.off {c1 c2:Value}{x:Int}{l:List Nat}{y:Option BF}(r:IntR h n c1 c2 x l)(ho:Off b c2):IntR (upd h b y) n c1 c2 x l:=⟨r.neg,r.sl.off ho,r.norm,r.val⟩
theorem IntR.len_le {c1 c2:Value}{x y:Int}{l l':List Nat}(r:IntR h n c1 c2 x l)(r':IntR h' n' d1 d2 y l')(hle:y.natAbs≤x.natAbs):l'.length≤l.length:=r.norm.len_le r'.norm (by rw [r.val,r'.val];exact hle)
theorem IntR.ones {c1 c2:Value}{x:Int}{l:List Nat}(r:IntR h n c1 c2 x l):ones [c1,c2]=true:=by
 rw [r.neg]
 show GL.ones (c2::_)=true
 rw [r.sl.ones]
 rfl
def Away (n:Nat)(c0 v:Value):Prop:=(v=c0∧Below n v)∨ym (n+1+1+1) v
theorem Away.off (h:Away n c0 v)(h1:3*n≤b)(h2:b<3*(n+1+1+1)):Off b v:=by
 rcases h with h|h
 ·exact h.2.off h1
 exact h.off h2
theorem Away.or (h:Away n c0 v):v=c0∨ym n v:=by
 rcases h with h|h
 ·exact .inl h.1
 exact .inr (h.mono zo)
structure FrS (n:Nat)(c0 d0:Value)(h h':HF)(n':Nat)(c1 c2 d1 d2:Value)(x y:Int)(A C:List Nat):Prop where
 n3:n+1+1+1≤n'
 ext:Ext n h h'
 b2:∃e,h' (3*n+2)=some (.row [c1,c2] e)
 b3:∃e,h' (3*(n+1)+2)=some (.row [d1,d2] e)
 b4:∃e,h' (3*(n+1+1)+2)=some (.row [.bool false,.slice none 0 0,.bool false,.slice none 0 0] e)
 ix:IntR h' n' c1 c2 x A
 iy:IntR h' n' d1 d2 y C
 ox:Away n c0 c2
 oy:Away n d0 d2
theorem FrS.exts {d0:Value}{h'':HF}{n'':Nat}{c1 c2:Value}{x y:Int}(s:FrS n c0 d0 h h' n' c1 c2 d1 d2 x y A C)(hx:Ext n' h' h'')(hn:n'≤n''):FrS n c0 d0 h h'' n'' c1 c2 d1 d2 x y A C:=by
 obtain ⟨n3,ext,⟨e2,b2⟩,⟨e3,b3⟩,⟨e4,b4⟩,ix,iy,ox,oy⟩:=s
 exact ⟨zo,ext.trans hx zo,⟨e2,by rw [hx _ zo];exact b2⟩,⟨e3,by rw [hx _ zo];exact b3⟩,⟨e4,by rw [hx _ zo];exact b4⟩,ix.ext hx hn,iy.ext hx hn,ox,oy⟩
theorem FrS.putx {d0:Value}{c1 c2:Value}{x y:Int}(s:FrS n c0 d0 h h' n' c1 c2 d1 d2 x y A C){u1 u2:Value}{x':Int}{A':List Nat}(i:IntR h' n' u1 u2 x' A')(o:Away n c0 u2)(e:TypeId):FrS n c0 d0 h (upd h' (3*n+2) (some (.row [u1,u2] e))) n' u1 u2 d1 d2 x' y A' C:=by
 obtain ⟨n3,ext,⟨e2,b2⟩,⟨e3,b3⟩,⟨e4,b4⟩,ix,iy,ox,oy⟩:=s
 exact ⟨zo,fun b hb=>by rw [zh zo];exact ext b hb,⟨e,ze _ _ _⟩,⟨e3,by rw [zh zo];exact b3⟩,⟨e4,by rw [zh zo];exact b4⟩,i.off (o.off zo zo),iy.off (oy.off zo zo),o,oy⟩
theorem FrS.puty {d0:Value}{c1 c2:Value}{x y:Int}(s:FrS n c0 d0 h h' n' c1 c2 d1 d2 x y A C){u1 u2:Value}{y':Int}{C':List Nat}(i:IntR h' n' u1 u2 y' C')(o:Away n d0 u2)(e:TypeId):FrS n c0 d0 h (upd h' (3*(n+1)+2) (some (.row [u1,u2] e))) n' c1 c2 u1 u2 x y' A C':=by
 obtain ⟨n3,ext,⟨e2,b2⟩,⟨e3,b3⟩,⟨e4,b4⟩,ix,iy,ox,oy⟩:=s
 exact ⟨zo,fun b hb=>by rw [zh zo];exact ext b hb,⟨e2,by rw [zh zo];exact b2⟩,⟨e,ze _ _ _⟩,⟨e4,by rw [zh zo];exact b4⟩,ix.off (ox.off zo zo),i.off (o.off zo zo),ox,o⟩
theorem zha {x y:Int}(hy:0<y):(Rat.divInt x y).num=x/((Nat.gcd x.natAbs y.natAbs:Nat):Int):=by
 rw [Rat.num_divInt,Int.sign_eq_one_of_pos hy,Int.one_mul]
 unfold Int.gcd
 rw [Nat.gcd_comm]
theorem zhb {x y:Int}(hy:0<y):(Rat.divInt x y).den=y.natAbs/Nat.gcd x.natAbs y.natAbs:=by
 rw [Rat.den_divInt,if_neg zo]
 unfold Int.gcd
 rw [Nat.gcd_comm]
theorem jZ {x:Int}(h:g∣x.natAbs):x.tdiv (g:Int)=x/(g:Int):=Int.tdiv_eq_ediv_of_dvd (Int.ofNat_dvd_left.2 h)
theorem zbp {y:Int}(h:0<y)(g:Nat):y/(g:Int)=((y.natAbs/g:Nat):Int):=by
 obtain ⟨m,rfl⟩:∃m:Nat,y=m:=⟨y.natAbs,zo⟩
 rw [Int.natAbs_natCast]
 rfl
structure DenR (h:HF)(n:Nat)(d1 d2:Value)(q:Nat)(ld:List Nat):Prop where
 neg:d1=.bool false
 sl:Sl h n 1 d2 (u32s ld)
 norm:Norm ld
 val:val ld=if q=1 then 0 else q
theorem cF (k:Nat){c1 c2:Value}{x y:Int}(hx:IntR h n c1 c2 x A)(hy:IntR h n d1 d2 y C)(hy0:y≠0)(hb:A.length<1000000000∧C.length<1000000000):
  CF (cal (k+5)) 119 [.agg #[c1,c2],.agg #[d1,d2]] h n fun v h' n' w=>w=[]∧n≤n'∧Ext n h h'∧∃u1 u2 e1 e2 ln ld,v=.agg #[u1,u2,e1,e2]∧RatR h' n' u1 u2 e1 e2 (Rat.divInt x y) ln ld∧ln.length≤A.length∧ld.length≤C.length∧(u2=c2∨ym n u2)∧(e2=d2∨ym n e2):=by
 refine zr (fn:=Tryz.f119) R4 ?_
 obtain ⟨q,hq⟩:∃q,q=Rat.divInt x y:=⟨_,rfl⟩
 rw [←hq]
 refine zN ?_
 refine wW (cs:=[c1,c2]) R5 ?_
 refine wW (cs:=[d1,d2]) R5 ?_
 refine yp R5 ?_
 refine zN ?_
 generalize hh:upd (upd (upd h (3*n+2) _) (3*(n+1)+2) _) (3*(n+1+1)+2) _=h1
 have hx1:Ext n h h1:=by rw [←hh];intro b hb;rw [zh zo,zh zo,zh zo]
 have S1:FrS n c2 d2 h h1 (n+1+1+1) c1 c2 d1 d2 x y A C:=⟨Nat.le_refl _,hx1,⟨_,by rw [←hh,zh zo,zh zo,ze]⟩,⟨_,by rw [←hh,zh zo,ze]⟩,⟨_,by rw [←hh,ze];rfl⟩,hx.ext hx1 zo,hy.ext hx1 zo,.inl ⟨rfl,hx.sl.below⟩,.inl ⟨rfl,hy.sl.below⟩⟩
 clear hh
 obtain ⟨ty2,hp2⟩:=S1.b2
 obtain ⟨ty3,hp3⟩:=S1.b3
 repeat refine zR ?_
 refine zC R6 hp3 (v:=d1) R2 ?_
 refine zN ?_
 refine yI (α:=(Value×Value)×Int×Int) (fun _=>[(2,.pointer (some ⟨3*n+2,0,none⟩)),(3,.pointer (some ⟨3*(n+1)+2,0,none⟩)),(4,.pointer (some ⟨3*(n+1+1)+2,0,none⟩))]) (fun z h' n' w=>w=[]∧FrS n c2 d2 h h' n' z.1.1 c2 z.1.2 d2 z.2.1 z.2.2 A C∧0<z.2.2∧Rat.divInt z.2.1 z.2.2=q) ?_ ?_
 ·by_cases hn:y<0
  ·rw [zc (by show d1=_;rw [hy.neg,decide_eq_true hn])]
   refine zj [0,1,0,7,15,31] rfl ?_
   refine yf (v:=.agg #[c1,c2]) R6 (zL R2 hp2 rfl zb rfl) R2 ?_
   refine uX _ R7 (dW (k+2) S1.ix) ?_
   rintro _ h2 n2 _ ⟨rfl,hn2,hx2,u1,rfl,i1⟩
   refine ⟨rfl,hn2,?_⟩
   refine yf (v:=.agg #[d1,d2]) R6 (zL R2 hp3 rfl zb rfl) ⟨(qV (by simp)),rfl⟩ ?_
   refine uX _ R7 (dW (k+2) (S1.iy.ext hx2 hn2)) ?_
   rintro _ h3 n3 _ ⟨rfl,hn3,hx3,v1,rfl,i2⟩
   refine ⟨rfl,hn3,?_⟩
   have S3:=(S1.exts hx2 hn2).exts hx3 hn3
   have i1':=i1.ext hx3 hn3
   obtain ⟨e2,hq2⟩:=S3.b2
   refine xu (cs:=[u1,c2]) R7 i1.ones hq2 zb (by show 3*n≤_;omega) R3 ?_
   have S4:=S3.putx i1' S3.ox e2
   obtain ⟨e3,hq3⟩:=S4.b3
   refine xu (cs:=[v1,d2]) R7 i2.ones hq3 zb (by show 3*n≤_;omega) R3 ?_
   have S5:=S4.puty (i2.off (S4.oy.off zo zo)) S4.oy e3
   refine zN ?_
   exact ⟨((u1,v1),-x,-y),⟨rfl,rfl,rfl,trivial⟩,rfl,S5,by show 0< -y;omega,by show Rat.divInt (-x) (-y)=q;rw [Rat.divInt_neg',Int.neg_neg,hq]⟩
  rw [za (by show d1=_;rw [hy.neg,decide_eq_false hn])]
  refine zN ?_
  exact ⟨((c1,d1),x,y),⟨rfl,rfl,rfl,trivial⟩,rfl,S1,by show 0<y;omega,hq.symm⟩
 clear hp2 hp3 S1 hx1 h1
 rintro ⟨⟨u1,v1⟩,x',y'⟩ t h1 n1 _ ⟨rfl,S,hy',hq'⟩
 simp only at S hy' hq'
 have hqn:=zha (x:=x') hy'
 have hqd:=zhb (x:=x') hy'
 rw [hq'] at hqn hqd
 refine zN ?_
 obtain ⟨ty2,hp2⟩:=S.b2
 obtain ⟨ty3,hp3⟩:=S.b3
 refine zK (v:=.agg #[u1,c2]) R5 (zL R2 hp2 rfl zb rfl) ?_
 refine zK (v:=.agg #[v1,d2]) R5 (zL R2 hp3 rfl zb rfl) ?_
 refine zu _ R5 (zg5 k S.ix S.iy hb) ?_
 rintro _ h2 n2 _ ⟨rfl,hn2,hx2,g1,g2,G,rfl,ig,bG,og⟩
 generalize hg:Nat.gcd x'.natAbs y'.natAbs=g at*
 refine yp R5 ?_
 refine zI [g1,g2] R7 ig.ones (ze _ _ _) rfl (by show 3*n≤_;have:=S.n3;omega) ?_
 rw [xC]
 have S2:=S.exts hx2 hn2
 generalize hh:upd h2 (3*n2+2) _=h3
 have hx3:Ext n2 h2 h3:=by rw [←hh];exact Ext.upd zo
 have hpg:∃e,h3 (3*n2+2)=some (.row [g1,g2] e):=⟨_,by rw [←hh,ze]⟩
 clear hh
 obtain ⟨tg,hpg⟩:=hpg
 have S3:=S2.exts hx3 zs
 have ig3:=ig.ext hx3 zs
 refine zN ?_
 refine zK (v:=.agg #[g1,g2]) R5 (zL R2 hpg rfl zb rfl) ?_
 refine yg _ R5 (ai (k+3) ig3 bG) ?_
 rintro _ ⟨b,rfl,hb0,hb1⟩
 rw [Int.natAbs_natCast] at hb0 hb1
 have hgpos:0<g:=by rw [←hg];exact Nat.gcd_pos_of_pos_right _ zo
 have hgx:g∣x'.natAbs:=by rw [←hg];exact Nat.gcd_dvd_left _ _
 have hgy:g∣y'.natAbs:=by rw [←hg];exact Nat.gcd_dvd_right _ _
 refine gt R6 ?_
 refine zN ?_
 have hn3:=S3.n3
 refine yI (α:=(Value×Value×Value×Value)×List Nat×List Nat) (fun _=>[(2,.pointer (some ⟨3*n+2,0,none⟩)),(3,.pointer (some ⟨3*(n+1)+2,0,none⟩)),(4,.pointer (some ⟨3*(n+1+1)+2,0,none⟩))]) (fun z h' n' w=>w=[]∧FrS n c2 d2 h h' n' z.1.1 z.1.2.1 z.1.2.2.1 z.1.2.2.2 q.num (q.den:Int) z.2.1 z.2.2∧z.2.1.length≤A.length∧z.2.2.length≤C.length) ?_ ?_
 ·by_cases hgt:(1:Int)<(b:Int)
  ·rw [zc (by show Value.bool (decide ((1:Int)<(b:Int)))=_;rw [decide_eq_true hgt])]
   refine zN ?_
   obtain ⟨e2,hq2⟩:=S3.b2
   refine zK (v:=.agg #[u1,c2]) R5 (zL R2 hq2 rfl zb rfl) ?_
   refine zK (v:=.agg #[g1,g2]) R5 (zL R2 hpg rfl zb rfl) ?_
   refine zu _ R5 (mp k S3.ix ig3 zo hb.1) ?_
   rintro _ h4 n4 _ ⟨rfl,hn4,hx4,q1,q2,r1,r2,Lq,Lr,rfl,iq,ir,fq,fr⟩
   repeat refine zR ?_
   have S4:=S3.exts hx4 hn4
   obtain ⟨e4,hq4⟩:=S4.b2
   refine zI [q1,q2] R7 iq.ones hq4 rfl (by show 3*n≤_;omega) ?_
   have S5:=S4.putx iq (.inr (fq.mono zo)) e4
   refine zN ?_
   obtain ⟨e5,hq5⟩:=S5.b3
   have hpg5:=(zh (f:=h4) (i:=3*n+2) (v:=some (.row [q1,q2] e4)) (j:=3*n2+2) zo).trans ((hx4 _ zo).trans hpg)
   refine zK (v:=.agg #[v1,d2]) R5 (zL R2 hq5 rfl zb rfl) ?_
   refine zK (v:=.agg #[g1,g2]) R5 (zL R2 hpg5 rfl zb rfl) ?_
   have og2:Off (3*n+2) g2:=og _ (by have:=S.n3;omega) (S.ox.off zo zo) (S.oy.off zo zo)
   refine zu _ R5 (mp k S5.iy ((ig3.ext hx4 hn4).off og2) zo hb.2) ?_
   rintro _ h6 n6 _ ⟨rfl,hn6,hx6,p1,p2,s1,s2,Lp,Ls,rfl,ip,is,fp,fs⟩
   repeat refine zR ?_
   have S6:=S5.exts hx6 hn6
   obtain ⟨e6,hq6⟩:=S6.b3
   refine zI [p1,p2] R7 ip.ones hq6 rfl (by show 3*n≤_;omega) ?_
   have S7:=S6.puty ip (.inr (fp.mono zo)) e6
   refine zN ?_
   rw [jZ hgx,←hqn,jZ hgy,show y'/(g:Int)=(q.den:Int) from by rw [hqd];exact zbp hy' g] at S7
   refine zS ((q1,q2,p1,p2),Lq,Lp) ⟨rfl,rfl,rfl,trivial⟩ ⟨rfl,S7,S3.ix.len_le iq ?_,S3.iy.len_le ip ?_⟩
   ·rw [Int.natAbs_tdiv];exact Nat.div_le_self _ _
   rw [Int.natAbs_tdiv];exact Nat.div_le_self _ _
  rw [za (by show Value.bool (decide ((1:Int)<(b:Int)))=_;rw [decide_eq_false hgt])]
  refine zN ?_
  have hg1:g=1:=zo
  subst hg1
  rw [show ((1:Nat):Int)=1 from rfl,Int.ediv_one] at hqn
  rw [Nat.div_one] at hqd
  refine zS ((u1,c2,v1,d2),A,C) ⟨rfl,rfl,rfl,trivial⟩ ⟨rfl,?_,Nat.le_refl _,Nat.le_refl _⟩
  show FrS n c2 d2 h h3 (n2+1) u1 c2 v1 d2 q.num (q.den:Int) A C
  rw [hqn,hqd,show ((y'.natAbs:Nat):Int)=y' from zo]
  exact S3
 clear hqn hqd hgx hgy hgpos hb0 hb1 ig3 S3 hpg hx3 S2 ig hp2 hp3 S hx2 hn2 hn3 og
 rintro ⟨⟨u1,u2,v1,v2⟩,L1,L2⟩ t h5 n5 _ ⟨rfl,S,hl1,hl2⟩
 simp only at S hl1 hl2
 refine zN ?_
 obtain ⟨ty3,hp3⟩:=S.b3
 refine zK (v:=.agg #[v1,v2]) R5 (zL R2 hp3 rfl zb rfl) ?_
 refine yg _ R5 (ai (k+3) S.iy zo) ?_
 rintro _ ⟨b,rfl,hb0,hb1⟩
 rw [Int.natAbs_natCast] at hb0 hb1
 refine kb R6 ?_
 refine zN ?_
 refine yI (α:=(Value×Value)×List Nat) (fun _=>[(2,.pointer (some ⟨3*n+2,0,none⟩)),(3,.pointer (some ⟨3*(n+1)+2,0,none⟩)),(4,.pointer (some ⟨3*(n+1+1)+2,0,none⟩))]) (fun z h' n' w=>w=[]∧n+1+1+1≤n'∧Ext n h h'∧(∃e,h' (3*n+2)=some (.row [u1,u2] e))∧(∃e,h' (3*(n+1)+2)=some (.row [z.1.1,z.1.2] e))∧(∃e,h' (3*(n+1+1)+2)=some (.row [.bool false,.slice none 0 0,.bool false,.slice none 0 0] e))∧IntR h' n' u1 u2 q.num L1∧DenR h' n' z.1.1 z.1.2 q.den z.2∧Away n c2 u2∧Away n d2 z.1.2∧z.2.length≤C.length) ?_ ?_
 ·by_cases hd:(b:Int)=1
  ·rw [zc (by show Value.bool (decide ((b:Int)=1))=_;rw [decide_eq_true hd])]
   refine zN ?_
   refine zF (v:=.agg #[.bool false,.slice none 0 0]) R4 rfl ?_
   refine zI [.bool false,.slice none 0 0] R7 rfl hp3 rfl (by show 3*n≤_;omega) ?_
   refine zN ?_
   have hden:q.den=1:=hb1.1 zo
   obtain ⟨n3,ext,⟨e2,b2⟩,_,⟨e4,b4⟩,ix,iy,ox,oy⟩:=S
   exact zS ((.bool false,.slice none 0 0),[]) ⟨rfl,rfl,rfl,trivial⟩ ⟨rfl,n3,fun b hb=>(zh zo).trans (ext b hb),⟨e2,(zh zo).trans b2⟩,⟨_,ze _ _ _⟩,⟨e4,(zh zo).trans b4⟩,ix.off (ox.off zo zo),⟨rfl,.nil (.inl rfl),Norm.nil,by rw [if_pos hden];rfl⟩,ox,.inr trivial,Nat.zero_le _⟩
  rw [za (by show Value.bool (decide ((b:Int)=1))=_;rw [decide_eq_false hd])]
  refine zN ?_
  have hden:q.den≠1:=fun e=>hd (by have:=hb1.2 e;omega)
  obtain ⟨n3,ext,b2,b3,b4,ix,iy,ox,oy⟩:=S
  exact zS ((v1,v2),L2) ⟨rfl,rfl,rfl,trivial⟩ ⟨rfl,n3,ext,b2,b3,b4,ix,⟨by rw [iy.neg];simp,iy.sl,iy.norm,by rw [if_neg hden,iy.val,Int.natAbs_natCast]⟩,ox,oy,hl2⟩
 clear hp3 S hb0 hb1 hl2
 rintro ⟨⟨v1,v2⟩,L2⟩ t h6 n6 _ ⟨rfl,n3,ext,⟨e2,b2⟩,⟨e3,b3⟩,⟨e4,b4⟩,ix,id,ox,oy,hl2⟩
 simp only at b2 b3 b4 ix id ox oy hl2
 refine zN ?_
 refine zK (v:=.agg #[u1,u2]) R5 (zL R2 b2 rfl zb rfl) ?_
 refine zK (v:=.agg #[v1,v2]) R5 (zL R2 b3 rfl zb rfl) ?_
 refine zF (v:=.agg #[u1,u2,v1,v2]) R4 rfl ?_
 have hon:ones [u1,u2,v1,v2]=true:=by
  rw [ix.neg]
  show GL.ones (u2::_)=true
  rw [ix.sl.ones,id.neg]
  show GL.ones (v2::_)=true
  rw [id.sl.ones]
  rfl
 refine zI [u1,u2,v1,v2] R7 hon b4 rfl (by show 3*n≤_;omega) ?_
 refine zN ?_
 refine wp R5 (ze _ _ _) rfl ⟨rfl,by show n≤n6;omega,fun b hb=>(zh zo).trans (ext b hb),_,_,_,_,L1,L2,rfl,⟨ix.off (ox.off zo zo),id.neg,id.sl.off (oy.off zo zo),id.norm,id.val⟩,hl1,hl2,ox.or,oy.or⟩
end
section
def AllD (s:List UInt8):Prop:=∀b∈s,48≤b.toNat∧b.toNat≤57
def dval:List UInt8→Nat:=List.foldl (fun v b=>10*v+(b.toNat-48)) 0
theorem be (s:List UInt8):∀v,List.foldl (fun v b=>10*v+(b.toNat-48)) v s=v*10^s.length+dval s:=by
 induction s with
 |nil=>intro v;simp [dval]
 |cons b s ih=>
  intro v
  unfold dval
  rw [List.foldl_cons,List.foldl_cons,ih,ih (10*0+_),List.length_cons,Nat.pow_succ,Nat.add_mul,Nat.add_mul]
  rw [show 10*v*10^s.length=v*(10^s.length*10) from by rw [Nat.mul_comm 10 v,Nat.mul_assoc,Nat.mul_comm 10]]
  omega
theorem uz (a b:List UInt8):dval (a++b)=dval a*10^b.length+dval b:=by
 conv=>lhs;unfold dval
 rw [List.foldl_append]
 exact be b (dval a)
theorem sN (a:List UInt8)(b:UInt8):dval (a++[b])=10*dval a+(b.toNat-48):=by
 rw [uz]
 simp [dval]
 omega
theorem uV {s:List UInt8}(h:AllD s):dval s<10^s.length:=by
 induction s with
 |nil=>simp [dval]
 |cons b s ih=>
  have h1:=h b (by simp)
  have h2:=ih fun x hx=>h x (by simp [hx])
  rw [show b::s=[b]++s from rfl,uz]
  simp only [List.length_append,List.length_singleton]
  rw [Nat.add_comm 1,Nat.pow_succ]
  have h3:dval [b]≤9:=by simp [dval];omega
  have h4:dval [b]*10^s.length≤9*10^s.length:=Nat.mul_le_mul_right _ h3
  omega
theorem Norm.len_pow (h:Norm L)(hv:val L<10^i):L.length≤i:=by
 apply Classical.byContradiction
 intro hn
 obtain ⟨j,d,rfl⟩:=snoc (l:=L) (by intro e;rw [e] at hn;simp at hn)
 have hd:=h.last
 rw [u7] at hv
 have h1:4294967296^j.length*1≤4294967296^j.length*YtlmbghgklnmlkaaGreatDoor.val [d]:=Nat.mul_le_mul_left _ (by simp [YtlmbghgklnmlkaaGreatDoor.val];omega)
 have h2:4294967296^i≤4294967296^j.length:=Nat.pow_le_pow_right zo (by simp at hn;omega)
 have h3:10^i≤4294967296^i:=Nat.pow_le_pow_left zo _
 omega
theorem AllD.take_succ {s:List UInt8}{b:UInt8}(h:AllD (s.take i))(hb:s[i]?=some b)(hd:48≤b.toNat∧b.toNat≤57):AllD (s.take (i+1)):=by
 obtain ⟨hlt,rfl⟩:=List.getElem?_eq_some_iff.1 hb
 rw [List.take_succ_eq_append_getElem hlt]
 intro x hx
 rcases List.mem_append.1 hx with hx|hx
 ·exact h x hx
 rw [List.mem_singleton.1 hx];exact hd
theorem pS {s:List UInt8}{b:UInt8}(hb:s[i]?=some b):s.take (i+1)=s.take i++[b]:=by
 obtain ⟨hlt,rfl⟩:=List.getElem?_eq_some_iff.1 hb
 rw [List.take_succ_eq_append_getElem hlt]
section
variable {X:CtxF}{ops r:List Oper}{t:TF}{h:HF}{n:Nat}{w:List Nat}{Q:SV→Prop}{o:Oper}{d:Tmp}
theorem yq {i:Operand}{s:List UInt8}{b:UInt8}(hw:zg ops t o=true∧o.dst=some d∧zm X.nt (some d)=true∧o.op=.index ty x i∧X.E.und ty=some .string∧evF t x=.string ⟨⟨s⟩⟩∧evF t i=.int ik ji∧ji=(j:Int))(hb:s[j]?=some b)
  (k:EO X ops r ⟨upd t d (.int .u8 (b.toNat:Int)),h,n,w⟩ Q):EO X ops (o::r) ⟨t,h,n,w⟩ Q:=by
 obtain ⟨hw,hd,hn,ho,hu,hx,hj,hji⟩:=hw
 subst hji
 refine zF ⟨hw,hd,hn,(by rw [ho];rfl)⟩ ?_ k
 rw [ho]
 show mJ X.E ty (evF t x) (evF t i)=_
 rw [hx,hj]
 simp only [mJ,hu,Int.toNat_natCast,hb,if_pos (Int.natCast_nonneg j)]
end
def FdR (n:Nat)(h:HF)(s:List UInt8)(v:Value)(h':HF)(n':Nat)(w:List Nat):Prop:=w=[]∧n≤n'∧Ext n h h'∧∃c1 c2 L ok,∃x:Nat,v=.tuple #[.agg #[c1,c2],.bool ok]∧IntR h' n' c1 c2 (x:Int) L∧L.length≤s.length∧ym n c2∧(AllD s∧s≠[]→ok=true∧x=dval s)∧(ok=true→AllD s∧s≠[])
theorem um {P:Value→HF→Nat→List Nat→Prop}{e:Ex}{t:TF}{h:HF}{n:Nat}{w:List Nat}{a a2:Tmp}{e1:TypeId}{u:Value}(he:tN e=true∧fn.results.toList=[.cell a ty,.tmp a2]∧t a=.pointer (some ⟨b,0,none⟩)∧t a2=u∧GL.isAgg env ty=some true∧env.inf ty=some (sz,bt,z))(hb:h b=some (.row cs e1))(hl:cs.length=sz∧uK [.agg cs.toArray,u]=false)(hp:P (.tuple #[.agg cs.toArray,u]) h n w):RetH fn P e ⟨t,h,n,w⟩:=by
 obtain ⟨he,hr,ha,ha2,hg,hi⟩:=he;obtain ⟨hl,hf⟩:=hl
 refine retH [.agg cs.toArray,u] ⟨he,?_,hf⟩ hp
 rw [hr]
 have l1:=zL ⟨hg,hi⟩ hb rfl (show 0+sz≤cs.length by omega) (show (cs.drop 0).take sz=cs by rw [List.drop_zero,List.take_of_length_le zo])
 simp only [resF,ha,ha2,l1]
theorem sH (k:Nat)(h:HF)(n:Nat)(s:List UInt8)(hs:s.length<1000000):CF (cal (k+3)) 126 [.string ⟨⟨s⟩⟩] h n (FdR n h s):=by
 refine zr (fn:=Tryz.f126) R4 ?_
 refine zN ?_
 refine yp R5 ?_
 repeat refine zR ?_
 refine zN ?_
 repeat refine zR ?_
 refine zN ?_
 repeat refine zR ?_
 refine zN ?_
 generalize hh:upd h (3*n+2) _=h1
 have hr1:∃e,h1 (3*n+2)=some (.row [.bool false,.slice none 0 0] e):=⟨_,by rw [←hh,ze];rfl⟩
 have hx1:Ext n h h1:=by rw [←hh];exact Ext.upd zo
 clear hh
 refine zV (α:=Nat×Option Addr×Nat×List Nat) (fun z=>[(0,.string ⟨⟨s⟩⟩),(2,.pointer (some ⟨3*n+2,0,none⟩)),(4,.slice z.2.1 z.2.2.2.length z.2.2.1),(5,.int .i64 (z.1:Int))])
  (fun z h' n' w'=>w'=[]∧n+1≤n'∧Ext n h h'∧(∃e,h' (3*n+2)=some (.row [.bool false,.slice none 0 0] e))∧z.1≤s.length∧AllD (s.take z.1)∧Sl h' n' 1 (.slice z.2.1 z.2.2.2.length z.2.2.1) (u32s z.2.2.2)∧Norm z.2.2.2∧val z.2.2.2=dval (s.take z.1)∧ym (n+1) (.slice z.2.1 z.2.2.2.length z.2.2.1)) (fun z=>s.length-z.1)
  (0,none,0,[]) ⟨rfl,rfl,rfl,rfl,trivial⟩ ⟨rfl,Nat.le_refl _,hx1,hr1,Nat.zero_le _,fun b hb=>absurd hb (by simp),.nil (.inl rfl),Norm.nil,rfl,trivial⟩ (by show s.length-0<LL;unfold LL;omega) ?_
 rintro ⟨i,a,c,L⟩ t h2 n2 _ ⟨rfl,hn2,hx2,⟨e2,hr2⟩,hi,hall,hsl,hnorm,hval,hfr⟩
 simp only at hi hall hsl hnorm hval hfr
 have hLl:L.length≤i:=hnorm.len_pow (by rw [hval];have:=uV hall;rw [List.length_take,Nat.min_eq_left hi] at this;exact this)
 refine zN ?_
 by_cases hie:i=s.length
 ·have hts:s.take i=s:=by rw [hie,List.take_length]
  rw [hts] at hall hval
  refine zM ?_
  refine zM ?_
  refine st_I (ik:=.i64) (a:=(s.length:Int)) R5 ?_
  repeat refine zR ?_
  refine zN ?_
  rw [za rfl]
  refine zN ?_
  repeat refine zR ?_
  refine zu _ R5 (vu (k+1) _ _ false a L.length c) ?_
  rintro _ h3 n3 _ ⟨rfl,rfl,rfl,hx3⟩
  refine zM ?_
  refine st_B (a:= !(s==[])) R5 ?_
  refine zI [.bool (false&&decide (0<L.length)),.slice a L.length c] R7 rfl (by rw [hx3 _ zo];exact hr2) rfl (by show 3*n≤_;omega) ?_
  repeat refine zR ?_
  refine zN ?_
  refine um R6 (ze _ _ _) R2 ⟨rfl,by show n≤n2+1;omega,fun b hb=>(zh zo).trans ((hx3 b zo).trans (hx2 b hb)),_,_,L,_,dval s,rfl,ri ((hsl.ext hx3 zs).off (hfr.off zo)) hnorm (by rw [hval];simp) (fun _=>by rw [decide_eq_false zo]),zo,hfr.mono zo,fun hd=>⟨by simpa using hd.2,rfl⟩,fun hd=>⟨hall,by simpa using hd⟩⟩
 have hilt:i<s.length:=zo
 refine zM ?_
 refine zM ?_
 refine st_I (ik:=.i64) (a:=(s.length:Int)) R5 ?_
 repeat refine zR ?_
 refine zN ?_
 rw [zc rfl]
 refine zN ?_
 repeat refine zR ?_
 refine zN ?_
 repeat refine zR ?_
 simp only [zZ,yc,zk,yd]
 refine yI (α:=Nat) (fun z=>[(0,.string ⟨⟨s⟩⟩),(2,.pointer (some ⟨3*n+2,0,none⟩)),(4,.slice a L.length c),(5,.int .i64 ((i+z:Nat):Int)),(6,.int .u32 ((dval ((s.drop i).take z):Nat):Int)),(7,.int .u32 ((10^z:Nat):Int))])
  (fun z h' n' w'=>h2=h'∧n'=n2∧w'=[]∧1≤z∧z≤9∧i+z≤s.length∧AllD (s.take (i+z))) ?_ ?_
 ·refine zN ?_
  refine zV (α:=Nat) (fun z=>[(0,.string ⟨⟨s⟩⟩),(2,.pointer (some ⟨3*n+2,0,none⟩)),(4,.slice a L.length c),(5,.int .i64 ((i+z:Nat):Int)),(6,.int .u32 ((dval ((s.drop i).take z):Nat):Int)),(7,.int .u32 ((10^z:Nat):Int)),(8,.int .i64 (z:Int))])
   (fun z h' n' w'=>h2=h'∧n'=n2∧w'=[]∧z≤9∧i+z≤s.length∧AllD (s.take (i+z))) (fun z=>9-z) 0 ⟨rfl,rfl,rfl,rfl,rfl,rfl,rfl,trivial⟩ ⟨rfl,rfl,rfl,Nat.zero_le _,by show i+0≤s.length;omega,hall⟩ (by show 9-0<LL;decide) ?_
  rintro z t h3 n3 _ ⟨rfl,rfl,rfl,hz9,hiz,hallz⟩
  refine zN ?_
  by_cases hz:z=9
  ·subst hz
   repeat refine zR ?_
   refine zN ?_
   rw [za rfl]
   refine zN ?_
   exact zS 9 ⟨rfl,rfl,rfl,rfl,rfl,rfl,trivial⟩ ⟨rfl,rfl,rfl,by decide,by decide,hiz,hallz⟩
  have hz8:z≤8:=zo
  by_cases hie2:i+z=s.length
  ·refine zM ?_
   refine rM R6 zo ?_
   refine zM ?_
   refine zM ?_
   refine zM ?_
   refine st_I (ik:=.i64) (a:=(s.length:Int)) R5 ?_
   repeat refine zR ?_
   refine zN ?_
   rw [za rfl]
   refine zN ?_
   exact zS z ⟨rfl,rfl,rfl,rfl,rfl,rfl,trivial⟩ ⟨rfl,rfl,rfl,zo,hz9,hiz,hallz⟩
  have hizlt:i+z<s.length:=zo
  obtain ⟨b,hb⟩:∃b,s[i+z]?=some b:=⟨s[i+z],List.getElem?_eq_getElem hizlt⟩
  refine zM ?_
  refine rM R6 zo ?_
  refine zM ?_
  refine zM ?_
  refine zM ?_
  refine st_I (ik:=.i64) (a:=(s.length:Int)) R5 ?_
  repeat refine zR ?_
  refine zN ?_
  rw [zc rfl]
  refine zN ?_
  refine zM ?_
  refine zM ?_
  refine yq (j:=i+z) R8 hb ?_
  have hmem:b∈s:=List.mem_of_getElem? hb
  by_cases hb1:b.toNat<48
  ·repeat refine zR ?_
   refine zN ?_
   rw [zc rfl]
   refine zN ?_
   refine zF (v:=.agg #[.bool false,.slice none 0 0]) R4 rfl ?_
   refine zI [.bool false,.slice none 0 0] R7 rfl hr2 rfl (by show 3*n≤_;omega) ?_
   repeat refine zR ?_
   refine zN ?_
   refine um R6 (ze _ _ _) R2 ⟨rfl,by show n≤n3;omega,fun b hb=>(zh zo).trans (hx2 b hb),_,_,[],false,0,rfl,⟨rfl,.nil (.inl rfl),Norm.nil,rfl⟩,Nat.zero_le _,trivial,fun hd=>by have:=hd.1 b hmem;omega,fun hd=>by cases hd⟩
  repeat refine zR ?_
  refine yq (j:=i+z) R8 hb ?_
  by_cases hb2:57<b.toNat
  ·repeat refine zR ?_
   refine zN ?_
   rw [zc rfl]
   refine zN ?_
   refine zF (v:=.agg #[.bool false,.slice none 0 0]) R4 rfl ?_
   refine zI [.bool false,.slice none 0 0] R7 rfl hr2 rfl (by show 3*n≤_;omega) ?_
   repeat refine zR ?_
   refine zN ?_
   refine um R6 (ze _ _ _) R2 ⟨rfl,by show n≤n3;omega,fun b hb=>(zh zo).trans (hx2 b hb),_,_,[],false,0,rfl,⟨rfl,.nil (.inl rfl),Norm.nil,rfl⟩,Nat.zero_le _,trivial,fun hd=>by have:=hd.1 b hmem;omega,fun hd=>by cases hd⟩
  repeat refine zR ?_
  refine zN ?_
  rw [za rfl]
  refine zN ?_
  have hsub:AllD ((s.drop i).take z):=fun x hx=>hallz x (by rw [List.take_add];exact List.mem_append.2 (.inr hx))
  have hvlt:=uV hsub
  have hlen:((s.drop i).take z).length=z:=by rw [List.length_take,List.length_drop];omega
  rw [hlen] at hvlt
  have hp8:10^z≤10^8:=Nat.pow_le_pow_right zo hz8
  have hnext:(s.drop i).take (z+1)=(s.drop i).take z++[b]:=pS (by rw [List.getElem?_drop];exact hb)
  have hdn:dval ((s.drop i).take (z+1))=dval ((s.drop i).take z)*10+(b.toNat-48):=by rw [hnext,sN];omega
  have hpn:10^(z+1)=10^z*10:=Nat.pow_succ _ _
  generalize hV:dval ((s.drop i).take z)=V at hvlt hdn
  generalize hF:10^z=F at hvlt hp8 hpn
  rw [show (10:Nat)^8=100000000 from rfl] at hp8
  refine zM ?_
  refine yV (a:=V) (b:=10) R6 zo ?_
  refine zM ?_
  refine zM ?_
  refine yq (j:=i+z) R8 hb ?_
  refine nZ (a:=b.toNat) (b:=48) R6 zo ?_
  refine s7 (c:=b.toNat-48) R7 zo ?_
  refine yL (a:=V*10) (b:=b.toNat-48) R6 zo ?_
  refine zM ?_
  refine yV (a:=F) (b:=10) R6 zo ?_
  repeat refine zR ?_
  refine zN ?_
  repeat refine zR ?_
  refine zN ?_
  repeat refine zR ?_
  refine zN ?_
  refine goOn (z+1) (by show 9-(z+1)<9-z;omega) ⟨rfl,rfl,rfl,by show Value.int .i64 _=Value.int .i64 _;congr 1,by show Value.int .u32 _=Value.int .u32 _;rw [hdn],by show Value.int .u32 _=Value.int .u32 _;rw [hpn],by show Value.int .i64 _=Value.int .i64 _;congr 1,trivial⟩ ⟨rfl,rfl,rfl,by show z+1≤9;omega,by show i+(z+1)≤s.length;omega,AllD.take_succ hallz hb zo⟩
 rintro z t _ n2 _ ⟨rfl,rfl,rfl,hz1,hz9,hiz,hallz⟩
 have hsub:AllD ((s.drop i).take z):=fun x hx=>hallz x (by rw [List.take_add];exact List.mem_append.2 (.inr hx))
 have hvlt:=uV hsub
 have hlen:((s.drop i).take z).length=z:=by rw [List.length_take,List.length_drop];omega
 have hfull:dval (s.take (i+z))=dval (s.take i)*10^z+dval ((s.drop i).take z):=by rw [List.take_add,uz,hlen]
 rw [hlen] at hvlt
 have hp9:10^z≤10^9:=Nat.pow_le_pow_right zo hz9
 generalize hV:dval ((s.drop i).take z)=V at hvlt hfull
 generalize hF:10^z=F at hvlt hp9 hfull
 rw [show (10:Nat)^9=1000000000 from rfl] at hp9
 refine zN ?_
 refine zM ?_
 refine zM ?_
 refine vO (cs:=[.int .u32 (F:Int)]) R5 ?_
 have hmul:=mB k (h:=upd h2 (3*n2+2) (some (.row [.int .u32 (F:Int)] 172))) (n:=n2+1) (A:=L) (C:=[F]) (hsl.ext (Ext.upd zo) (Nat.le_succ n2)) (Sl.own (O:=[F]) (len:=1) (cap:=1) (ze _ _ _) zo rfl (Nat.le_refl _)) hnorm.1 (fun x hx=>by simp at hx;omega) (by simp;omega)
 refine zu _ R5 hmul ?_
 rintro v4 h4 n4 w4 ⟨L4,⟨rfl,hn4,hx4,a4,c4,rfl,hs4,hnorm4,hf4⟩,hv4⟩
 refine zM ?_
 refine vO (cs:=[.int .u32 (V:Int)]) R5 ?_
 have htr:=wV (k+1) (l:=[V]) (h:=upd h4 (3*n4+2) (some (.row [.int .u32 (V:Int)] 172))) (n:=n4+1) (by simp) (Sl.own (O:=[V]) (len:=1) (cap:=1) (ze _ _ _) zo rfl (Nat.le_refl _))
 refine zu _ R5 htr ?_
 rintro _ _ _ _ ⟨e5,e6,rfl,rfl,hs5⟩
 subst e5 e6
 have hvF:val [F]=F:=by simp [val]
 rw [hvF] at hv4
 have hL4:L4.length<1000000000:=by
  have h1:=uV hall
  rw [List.length_take,Nat.min_eq_left hi] at h1
  have h2:=hnorm4.len_pow (i:=i+z) (by rw [hv4,hval,Nat.pow_add,hF];exact Nat.mul_lt_mul_of_pos_right h1 (by rw [←hF];exact Nat.pow_pos zo))
  omega
 have hadd:=lv k (h:=upd h4 (3*n4+2) (some (.row [.int .u32 (V:Int)] 172))) (n:=n4+1) (A:=L4) (C:=zT [V]) (hs4.ext (Ext.upd zo) (Nat.le_succ n4)) hs5 hnorm4.1 (qD _ (fun x hx=>by simp at hx;omega)) ⟨hL4,by have:=yU [V];simp at this;omega⟩
 refine zu _ R5 hadd ?_
 rintro v6 h6 n6 w6 ⟨L6,⟨rfl,hn6,hx6,a6,c6,rfl,hs6,hnorm6,hf6⟩,hv6⟩
 repeat refine zR ?_
 refine zN ?_
 refine goOn (i+z,a6,c6,L6) (by show s.length-(i+z)<s.length-i;omega) ⟨rfl,rfl,rfl,rfl,trivial⟩ ⟨rfl,by show n+1≤n6;omega,fun b hb=>?_,⟨e2,?_⟩,hiz,hallz,hs6,hnorm6,?_,hf6.mono zo⟩
 ·exact (hx6 b zo).trans ((zh zo).trans ((hx4 b zo).trans ((zh zo).trans (hx2 b hb))))
 ·exact (hx6 _ zo).trans ((zh zo).trans ((hx4 _ zo).trans ((zh zo).trans hr2)))
 show val L6=dval (s.take (i+z))
 rw [hv6,hv4,hval,hfull,xE]
 simp [val]
end
section
def len8:List UInt8:=[0,1,2,2,3,3,3,3,4,4,4,4,4,4,4,4,5,5,5,5,5,5,5,5,5,5,5,5,5,5,5,5,6,6,6,6,6,6,6,6,6,6,6,6,6,6,6,6,6,6,6,6,6,6,6,6,6,6,6,6,6,6,6,6,7,7,7,7,7,7,7,7,7,7,7,7,7,7,7,7,7,7,7,7,7,7,7,7,7,7,7,7,7,7,7,7,7,7,7,7,7,7,7,7,7,7,7,7,7,7,7,7,7,7,7,7,7,7,7,7,7,7,7,7,7,7,7,7,8,8,8,8,8,8,8,8,8,8,8,8,8,8,8,8,8,8,8,8,8,8,8,8,8,8,8,8,8,8,8,8,8,8,8,8,8,8,8,8,8,8,8,8,8,8,8,8,8,8,8,8,8,8,8,8,8,8,8,8,8,8,8,8,8,8,8,8,8,8,8,8,8,8,8,8,8,8,8,8,8,8,8,8,8,8,8,8,8,8,8,8,8,8,8,8,8,8,8,8,8,8,8,8,8,8,8,8,8,8,8,8,8,8,8,8,8,8,8,8,8,8,8,8,8,8,8,8]
theorem ze2:∀i,i<256→∃b,len8[i]?=some b∧b.toNat≤8∧i<2^b.toNat∧(i≠0→2^b.toNat≤2*i):=by
 intro i hi
 have h:∀i:Fin 256,(len8[i.val]?).any (fun b=>decide (b.toNat≤8∧i.val<2^b.toNat∧(i.val≠0→2^b.toNat≤2*i.val)))=true:=by decide+kernel
 have:=h ⟨i,hi⟩
 rw [Option.any_eq_true] at this
 obtain ⟨b,h1,h2⟩:=this
 exact ⟨b,h1,of_decide_eq_true h2⟩
theorem zbe {x m i L:Nat}(hi:x/2^m=i)(h1:i<2^L)(h2:i≠0→2^L≤2*i)(h3:m=0∨i≠0):x<2^(m+L)∧(x≠0→2^(m+L)≤2*x):=by
 have hp:0<2^m:=Nat.pow_pos zd
 have hm:=Nat.div_add_mod x (2^m)
 have hr:=Nat.mod_lt x hp
 rw [hi] at hm
 rw [Nat.pow_add]
 constructor
 ·have:2^m*(i+1)≤2^m*2^L:=Nat.mul_le_mul_left _ h1
  rw [Nat.mul_add,Nat.mul_one] at this
  omega
 intro hx
 have hi0:i≠0:=by
  rcases h3 with rfl|h3
  ·rw [Nat.pow_zero,Nat.div_one] at hi;omega
  exact h3
 have:=Nat.mul_le_mul_left (2^m) (h2 hi0)
 rw [Nat.mul_left_comm] at this
 omega
theorem jV (k:Nat)(h:HF)(n:Nat){x:Nat}(hx:x<18446744073709551616):VF (cal (k+1)) 194 [.int .u64 (x:Int)] h n fun v=>∃m:Nat,v=.int .i64 (m:Int)∧m≤64∧x<2^m∧(x≠0→2^m≤2*x):=by
 refine zA (fn:=Tryz.f194) R4 ?_
 have dd:∀m s,x/2^m/2^s=x/2^(m+s):=fun m s=>by rw [Nat.div_div_eq_div_mul,←Nat.pow_add]
 refine zN ?_
 repeat refine zR ?_
 refine zN ?_
 repeat refine zR ?_
 refine zN ?_
 refine yI (α:=Nat×Nat) (fun z=>[(0,.int .u64 (z.2:Int)),(2,.int .i64 (z.1:Int))]) (fun z h' n' w=>h=h'∧n=n'∧w=[]∧x/2^z.1=z.2∧z.2<4294967296∧z.1≤32∧(z.1=0∨z.2≠0)) ?_ ?_
 ·by_cases hge:4294967296≤x
  ·rw [zc (by show Value.bool (decide _)=_;rw [decide_eq_true zo])]
   refine zN ?_
   refine zM ?_
   refine z7 (a:=x) (s:=32) R6 zd ?_
   repeat refine zR ?_
   refine zN ?_
   repeat refine zR ?_
   refine zN ?_
   exact zS (32,x/2^32) ⟨rfl,rfl,trivial⟩ ⟨rfl,rfl,rfl,rfl,by show x/2^32<_;omega,Nat.le_refl 32,.inr (by show x/2^32≠0;omega)⟩
  rw [za (by show Value.bool (decide _)=_;rw [decide_eq_false zo])]
  refine zN ?_
  exact zS (0,x) ⟨rfl,rfl,trivial⟩ ⟨rfl,rfl,rfl,by show x/2^0=x;rw [Nat.pow_zero,Nat.div_one],by show x<_;omega,Nat.zero_le 32,.inl rfl⟩
 rintro ⟨m,i⟩ t _ _ _ ⟨rfl,rfl,rfl,h1,h2,h3,h4⟩
 simp only at h1 h2 h3 h4
 refine zN ?_
 repeat refine zR ?_
 refine zN ?_
 refine yI (α:=Nat×Nat) (fun z=>[(0,.int .u64 (z.2:Int)),(2,.int .i64 (z.1:Int))]) (fun z h' n' w=>h=h'∧n=n'∧w=[]∧x/2^z.1=z.2∧z.2<65536∧z.1≤48∧(z.1=0∨z.2≠0)) ?_ ?_
 ·by_cases hge:65536≤i
  ·rw [zc (by show Value.bool (decide _)=_;rw [decide_eq_true zo])]
   refine zN ?_
   refine zM ?_
   refine z7 (a:=i) (s:=16) R6 zd ?_
   repeat refine zR ?_
   refine zN ?_
   repeat refine zR ?_
   refine zN ?_
   exact zS (m+16,i/2^16) ⟨rfl,rfl,trivial⟩ ⟨rfl,rfl,rfl,by show x/2^(m+16)=i/2^16;rw [←h1,dd],by show i/2^16<_;omega,by show m+16≤48;omega,.inr (by show i/2^16≠0;omega)⟩
  rw [za (by show Value.bool (decide _)=_;rw [decide_eq_false zo])]
  refine zN ?_
  exact zS (m,i) ⟨rfl,rfl,trivial⟩ ⟨rfl,rfl,rfl,h1,by show i<_;omega,by show m≤48;omega,h4⟩
 clear h1 h2 h3 h4
 rintro ⟨m,i⟩ t _ _ _ ⟨rfl,rfl,rfl,h1,h2,h3,h4⟩
 simp only at h1 h2 h3 h4
 refine zN ?_
 repeat refine zR ?_
 refine zN ?_
 refine yI (α:=Nat×Nat) (fun z=>[(0,.int .u64 (z.2:Int)),(2,.int .i64 (z.1:Int))]) (fun z h' n' w=>h=h'∧n=n'∧w=[]∧x/2^z.1=z.2∧z.2<256∧z.1≤56∧(z.1=0∨z.2≠0)) ?_ ?_
 ·by_cases hge:256≤i
  ·rw [zc (by show Value.bool (decide _)=_;rw [decide_eq_true zo])]
   refine zN ?_
   refine zM ?_
   refine z7 (a:=i) (s:=8) R6 zd ?_
   repeat refine zR ?_
   refine zN ?_
   repeat refine zR ?_
   refine zN ?_
   exact zS (m+8,i/2^8) ⟨rfl,rfl,trivial⟩ ⟨rfl,rfl,rfl,by show x/2^(m+8)=i/2^8;rw [←h1,dd],by show i/2^8<_;omega,by show m+8≤56;omega,.inr (by show i/2^8≠0;omega)⟩
  rw [za (by show Value.bool (decide _)=_;rw [decide_eq_false zo])]
  refine zN ?_
  exact zS (m,i) ⟨rfl,rfl,trivial⟩ ⟨rfl,rfl,rfl,h1,by show i<_;omega,by show m≤56;omega,h4⟩
 clear h1 h2 h3 h4
 rintro ⟨m,i⟩ t _ _ _ ⟨rfl,rfl,rfl,h1,h2,h3,h4⟩
 simp only at h1 h2 h3 h4
 obtain ⟨b,hb,hb8,hb1,hb2⟩:=ze2 i h2
 refine zN ?_
 refine zM ?_
 refine zM ?_
 refine s8 (a:=i) R7 ?_
 rw [Nat.mod_eq_of_lt h2]
 refine yq (s:=len8) (j:=i) (b:=b) R8 hb ?_
 refine wX (a:=(b.toNat:Int)) R7 zo ?_
 repeat refine zR ?_
 refine zN ?_
 obtain ⟨g1,g2⟩:=zbe h1 hb1 hb2 h4
 exact retF _ rfl (zi rfl) R2 ⟨m+b.toNat,rfl,zo,g1,g2⟩
theorem kx (k:Nat)(h:HF)(n:Nat){x:Nat}(hx:x<18446744073709551616)(h0:x≠0):VF (cal (k+2)) 203 [.int .u64 (x:Int)] h n fun v=>∃s:Nat,v=.int .i64 (s:Int)∧s<64∧9223372036854775808≤x*2^s∧x*2^s<18446744073709551616:=by
 refine zA (fn:=Tryz.f203) R4 ?_
 refine zN ?_
 repeat refine zR ?_
 refine zN ?_
 repeat refine zR ?_
 refine yg _ R5 (jV k h n hx) ?_
 rintro _ ⟨m,rfl,hm,h1,h2⟩
 repeat refine zR ?_
 refine zN ?_
 have hm1:m≠0:=fun e=>by subst e;simp at h1;omega
 refine retF _ rfl (zi rfl) R2 ⟨64-m,by show Value.int .i64 _=Value.int .i64 _;congr 1;omega,zo,?_,?_⟩
 ·have h3:=Nat.mul_le_mul_right (2^(64-m)) (h2 h0)
  rw [←Nat.pow_add,show m+(64-m)=64 from zo,Nat.mul_assoc] at h3
  have e64:(2:Nat)^64=18446744073709551616:=rfl
  omega
 have h3:=Nat.mul_lt_mul_of_pos_right h1 (Nat.pow_pos (n:=64-m) (show 0<2 by decide))
 rw [←Nat.pow_add,show m+(64-m)=64 from zo] at h3
 exact h3
end
section
variable {lo:Nat}
theorem mQ {y Q r:Nat}(h:U*2^s=Q*(y*2^s)+r)(hr:r<y*2^s):U/y=Q∧U%y=r/2^s:=by
 have hp:0<2^s:=Nat.pow_pos zd
 have hy:0<y:=Nat.pos_of_ne_zero fun e=>by rw [e,Nat.zero_mul] at hr;omega
 have h1:U*2^s/(y*2^s)=Q:=by
  rw [h,Nat.add_comm,Nat.add_mul_div_right _ _ zo,Nat.div_eq_of_lt hr,Nat.zero_add]
 have h2:U*2^s%(y*2^s)=r:=by
  rw [h,Nat.add_comm,Nat.add_mul_mod_self_right,Nat.mod_eq_of_lt hr]
 rw [Nat.mul_div_mul_right _ _ hp] at h1
 rw [Nat.mul_mod_mul_right] at h2
 exact ⟨h1,by rw [←h2,Nat.mul_div_cancel _ hp]⟩
theorem mg (hs:s≤64):lo*2^s=lo/2^(64-s)*18446744073709551616+lo*2^s%18446744073709551616:=by
 have e:lo*2^s/18446744073709551616=lo/2^(64-s):=by
  rw [show (18446744073709551616:Nat)=2^(64-s)*2^s from by rw [←Nat.pow_add,show 64-s+s=64 from zo],Nat.mul_div_mul_right _ _ (Nat.pow_pos zd)]
 have:=Nat.div_add_mod (lo*2^s) 18446744073709551616
 rw [e,Nat.mul_comm] at this
 exact this.symm
theorem mw (hb:b<2^s):a*2^s|||b=a*2^s+b:=by
 have:=Nat.shiftLeft_add_eq_or_of_lt hb a
 rw [Nat.shiftLeft_eq] at this
 exact this.symm
theorem ff {q1 q0 Y Z:Nat}(h1:q1*Y+r1=top*4294967296+N/4294967296)(h2:q0*Y+r0=r1*4294967296+N%4294967296)(hZ:Z=Y):top*18446744073709551616+N=(q1*4294967296+q0)*Z+r0:=by
 subst hZ
 have e:(q1*4294967296+q0)*Z=q1*Z*4294967296+q0*Z:=by rw [Nat.add_mul,Nat.mul_right_comm]
 rw [e]
 omega
set_option maxRecDepth 100000
theorem qn (k:Nat)(h:HF)(n:Nat){hi y:Nat}(hhi:hi<y)(hlo:lo<18446744073709551616)(hy:y<18446744073709551616):VF (cal (k+3)) 208 [.int .u64 (hi:Int),.int .u64 (lo:Int),.int .u64 (y:Int)] h n fun v=>v=.tuple #[.int .u64 (((hi*18446744073709551616+lo)/y:Nat):Int),.int .u64 (((hi*18446744073709551616+lo)%y:Nat):Int)]:=by
 refine zA (fn:=Tryz.f208) R4 ?_
 refine zN ?_
 repeat refine zR ?_
 refine zN ?_
 repeat refine zR ?_
 refine zN ?_
 rw [za rfl]
 refine zN ?_
 repeat refine zR ?_
 refine zN ?_
 rw [za rfl]
 refine zN ?_
 by_cases h0:hi=0
 ·subst h0
  repeat refine zR ?_
  refine zN ?_
  rw [zc rfl]
  refine zN ?_
  rw [qu rfl]
  refine zM ?_
  refine zM ?_
  refine xg (a:=lo) (b:=y) R6 zo ?_
  refine zM ?_
  refine zM ?_
  refine wm (a:=lo) (b:=y) R6 zo ?_
  repeat refine zR ?_
  refine zN ?_
  exact retF [.int .u64 _,.int .u64 _] rfl rfl R2 (by rw [Nat.zero_mul,Nat.zero_add];rfl)
 repeat refine zR ?_
 refine zN ?_
 rw [za rfl]
 refine zN ?_
 refine zM ?_
 refine yg _ R5 (kx k h n hy zo) ?_
 rintro _ ⟨s,rfl,hs,hY1,hY2⟩
 refine yQ (c:=s) R7 zo ?_
 repeat refine zR ?_
 refine zN ?_
 refine zM ?_
 refine zM ?_
 refine yz (a:=y) (s:=s) R6 zo ?_
 rw [Nat.mod_eq_of_lt hY2]
 have hp:0<2^s:=Nat.pow_pos zd
 have hhs:hi*2^s+2^s≤y*2^s:=by
  have:=Nat.mul_le_mul_right (2^s) (show hi+1≤y from hhi)
  rw [Nat.add_mul,Nat.one_mul] at this
  exact this
 have hlow:lo/2^(64-s)<2^s:=by
  rw [Nat.div_lt_iff_lt_mul (Nat.pow_pos zd),←Nat.pow_add,show s+(64-s)=64 from zo]
  exact hlo
 have hsp:=mg (lo:=lo) (s:=s) zo
 have hmod:lo*2^s%18446744073709551616<18446744073709551616:=Nat.mod_lt _ zd
 have hU:(hi*18446744073709551616+lo)*2^s=(hi*2^s+lo/2^(64-s))*18446744073709551616+lo*2^s%18446744073709551616:=by
  rw [Nat.add_mul,Nat.add_mul,Nat.mul_right_comm]
  omega
 clear hsp
 repeat refine zR ?_
 refine zN ?_
 generalize hYe:y*2^s=Y at hY1 hY2 hhs ⊢
 repeat refine zW ?_
 refine zN ?_
 repeat refine zW ?_
 refine zN ?_
 refine zM ?_
 refine zM ?_
 refine yz (a:=hi) (s:=s) R6 zo ?_
 rw [Nat.mod_eq_of_lt (show hi*2^s<18446744073709551616 by omega)]
 refine zM ?_
 refine zM ?_
 refine yb (a:=64) (b:=s) R6 zo ?_
 refine z7 (a:=lo) (s:=64-s) R6 zo ?_
 refine xp (a:=hi*2^s) (b:=lo/2^(64-s)) R6 zo ?_
 rw [mw hlow]
 have htop:hi*2^s+lo/2^(64-s)<Y:=zo
 generalize hi*2^s+lo/2^(64-s)=top at hU htop ⊢
 repeat refine zR ?_
 refine zN ?_
 refine zM ?_
 refine zM ?_
 refine yz (a:=lo) (s:=s) R6 zo ?_
 generalize lo*2^s%18446744073709551616=N at hU hmod ⊢
 repeat refine zR ?_
 refine zN ?_
 repeat refine zW ?_
 refine zN ?_
 repeat refine zW ?_
 refine zN ?_
 obtain ⟨v1,hv1⟩:∃v1,v1=Y/4294967296:=⟨_,rfl⟩
 obtain ⟨v2,hv2⟩:∃v2,v2=Y%4294967296:=⟨_,rfl⟩
 have hYv:v1*4294967296+v2=Y:=zo
 rw [←hv1,←hv2]
 refine zM ?_
 refine zM ?_
 refine xg (a:=top) (b:=v1) R6 zo ?_
 repeat refine zR ?_
 refine zN ?_
 have hdm:top/v1*v1+top%v1=top:=by rw [Nat.mul_comm];exact Nat.div_add_mod _ _
 refine zM ?_
 refine zM ?_
 refine zM ?_
 refine yK (a:=top/v1) (b:=v1) R6 zo ?_
 refine yb (a:=top) (b:=top/v1*v1) R6 zo ?_
 rw [show top-top/v1*v1=top%v1 from zo]
 repeat refine zR ?_
 simp only [yd,z5,zZ,yc,zk]
 refine fh (va:=.int .u64 (Y:Int)) (vb:=.int .u64 (s:Int)) (vc:=.int .u64 (top:Int)) (vd:=.int .u64 ((N%4294967296:Nat):Int)) (v1:=v1) (v2:=v2) (w2:=N/4294967296) (top:=top) zo zo zo zo rfl ⟨rfl,rfl,rfl,rfl,rfl,rfl,rfl,rfl,rfl,trivial⟩ ?_
 intro t2 q1 hq1e hA
 rw [←yM hA]
 clear hA
 rw [hYv] at hq1e
 obtain ⟨r1,hr1e⟩:∃r1,r1=(top*4294967296+N/4294967296)%Y:=⟨_,rfl⟩
 have hT1:=Nat.div_add_mod (top*4294967296+N/4294967296) Y
 have hr1:=Nat.mod_lt (top*4294967296+N/4294967296) (show 0<Y by omega)
 rw [←hr1e] at hr1
 rw [←hq1e,←hr1e] at hT1
 clear hq1e hr1e
 rw [Nat.mul_comm] at hT1
 simp only [yd,z5,zZ,yc,zk]
 refine zM ?_
 refine wo (a:=top) (b:=4294967296) R6 ?_
 refine zM ?_
 refine uj (a:=top*4294967296%18446744073709551616) (b:=N/4294967296) R6 ?_
 refine zM ?_
 refine zM ?_
 refine wo (a:=q1) (b:=Y) R6 ?_
 refine y8 (a:=(top*4294967296%18446744073709551616+N/4294967296)%18446744073709551616) (b:=q1*Y%18446744073709551616) R6 zo ?_
 rw [show ((top*4294967296%18446744073709551616+N/4294967296)%18446744073709551616+18446744073709551616-q1*Y%18446744073709551616)%18446744073709551616=r1 from zo]
 repeat refine zR ?_
 simp only [yd,z5,zZ,yc,zk]
 refine zM ?_
 refine zM ?_
 refine xg (a:=r1) (b:=v1) R6 zo ?_
 repeat refine zR ?_
 simp only [yd,z5,zZ,yc,zk]
 have hdm:r1/v1*v1+r1%v1=r1:=by rw [Nat.mul_comm];exact Nat.div_add_mod _ _
 refine zM ?_
 refine zM ?_
 refine zM ?_
 refine yK (a:=r1/v1) (b:=v1) R6 zo ?_
 refine yb (a:=r1) (b:=r1/v1*v1) R6 zo ?_
 rw [show r1-r1/v1*v1=r1%v1 from zo]
 repeat refine zR ?_
 simp only [yd,z5,zZ,yc,zk]
 refine fg (va:=.int .u64 (Y:Int)) (vb:=.int .u64 (s:Int)) (vc:=.int .u64 (q1:Int)) (vd:=.int .u64 (r1:Int)) (v1:=v1) (v2:=v2) (w2:=N%4294967296) (top:=r1) zo zo zo zo rfl ⟨rfl,rfl,rfl,rfl,rfl,rfl,rfl,rfl,rfl,trivial⟩ ?_
 intro t3 q0 hq0e hA
 rw [←yM hA]
 clear hA
 rw [hYv] at hq0e
 obtain ⟨r0,hr0e⟩:∃r0,r0=(r1*4294967296+N%4294967296)%Y:=⟨_,rfl⟩
 have hT2:=Nat.div_add_mod (r1*4294967296+N%4294967296) Y
 have hr2:=Nat.mod_lt (r1*4294967296+N%4294967296) (show 0<Y by omega)
 have hq0:(r1*4294967296+N%4294967296)/Y<4294967296:=by
  rw [Nat.div_lt_iff_lt_mul zo]
  have:(r1+1)*4294967296≤Y*4294967296:=Nat.mul_le_mul_right _ hr1
  rw [Nat.mul_comm 4294967296]
  omega
 rw [←hq0e] at hq0
 rw [←hr0e] at hr2
 rw [←hq0e,←hr0e] at hT2
 clear hq0e hr0e
 have hq1:q1<4294967296:=by
  apply Classical.byContradiction
  intro hn
  have h1:4294967296*Y≤q1*Y:=Nat.mul_le_mul_right _ zo
  have h2:(top+1)*4294967296≤Y*4294967296:=Nat.mul_le_mul_right _ htop
  omega
 rw [Nat.mul_comm] at hT2
 refine zN ?_
 refine zM ?_
 refine yK (a:=q1) (b:=4294967296) R6 zo ?_
 refine zM ?_
 refine yA (a:=q1*4294967296) (b:=q0) R6 zo ?_
 refine zM ?_
 refine wo (a:=r1) (b:=4294967296) R6 ?_
 refine zM ?_
 refine uj (a:=r1*4294967296%18446744073709551616) (b:=N%4294967296) R6 ?_
 refine zM ?_
 refine zM ?_
 refine wo (a:=q0) (b:=Y) R6 ?_
 refine y8 (a:=(r1*4294967296%18446744073709551616+N%4294967296)%18446744073709551616) (b:=q0*Y%18446744073709551616) R6 zo ?_
 rw [show ((r1*4294967296%18446744073709551616+N%4294967296)%18446744073709551616+18446744073709551616-q0*Y%18446744073709551616)%18446744073709551616=r0 from zo]
 refine zM ?_
 refine z7 (a:=r0) (s:=s) R6 zo ?_
 repeat refine zR ?_
 refine zN ?_
 have hfin:=mQ (U:=hi*18446744073709551616+lo) (y:=y) (s:=s) (Q:=q1*4294967296+q0) (r:=r0) (hU.trans (ff hT1 hT2 hYe)) (by rw [hYe];exact hr2)
 refine retF [.int .u64 _,.int .u64 _] rfl rfl R2 ?_
 rw [hfin.1,hfin.2]
 rfl
end
section
variable {cap:Nat}
theorem jI (j:Nat)(q:List Nat)(d:Nat):(List.replicate (j+1) 0++q).set j d=List.replicate j 0++d::q:=by
 rw [List.replicate_succ',List.append_assoc,List.set_append_right _ _ (by simp),List.length_replicate,Nat.sub_self]
 rfl
theorem qx {r Vq:Nat}(hd:0<d)(hV:V=d*Vq+r):(a+18446744073709551616*V)/d=(r*18446744073709551616+a)/d+18446744073709551616*Vq∧(a+18446744073709551616*V)%d=(r*18446744073709551616+a)%d:=by
 have e:a+18446744073709551616*V=(r*18446744073709551616+a)+d*(18446744073709551616*Vq):=by
  rw [hV,Nat.mul_add,Nat.mul_left_comm]
  omega
 rw [e]
 exact ⟨Nat.add_mul_div_left _ _ hd,Nat.add_mul_mod_self_left _ _ _⟩
theorem fY {r:Nat}(hr:r<d)(ha:a<18446744073709551616):(r*18446744073709551616+a)/d<18446744073709551616:=by
 rw [Nat.div_lt_iff_lt_mul zo]
 have:(r+1)*18446744073709551616≤d*18446744073709551616:=Nat.mul_le_mul_right _ hr
 rw [Nat.mul_comm 18446744073709551616]
 omega
theorem lH {l:List Nat}(h:l[j]?=some a):wv (l.drop j)=a+18446744073709551616*wv (l.drop (j+1)):=by
 rw [xt h];rfl
theorem gH (k:Nat){a:Option Addr}{l:List Nat}(hb:l.length<1099511627)(hl:WdD l)(hd:0<d∧d<18446744073709551616)(hv:Sl h n 1 (.slice a len cap) (u64s l)):
  VF (cal (k+4)) 184 [.slice a len cap,.int .u64 (d:Int)] h n fun v=>v=.int .u64 ((wv l%d:Nat):Int):=by
 refine zA (fn:=Tryz.f184) R4 ?_
 have hlen0:=hv.lenW
 subst hlen0
 refine zN ?_
 repeat refine zR ?_
 refine zN ?_
 repeat refine zR ?_
 refine zN ?_
 repeat refine zR ?_
 refine zN ?_
 refine zV (α:=Nat×Nat) (fun x=>[(0,.slice a l.length cap),(1,.int .u64 (d:Int)),(5,.int .u64 (x.2:Int)),(6,.int .i64 ((x.1:Int)-1))])
  (fun x h' n' w=>h=h'∧n=n'∧w=[]∧x.1≤l.length∧x.2=wv (l.drop x.1)%d) (fun x=>x.1)
  (l.length,0) ⟨rfl,rfl,rfl,rfl,trivial⟩ ⟨rfl,rfl,rfl,Nat.le_refl _,by rw [List.drop_length];exact (Nat.zero_mod _).symm⟩ (by show l.length<LL;unfold LL;omega) ?_
 rintro ⟨j,r⟩ t _ _ _ ⟨rfl,rfl,rfl,hj,hr⟩
 simp only at hj hr
 have hrd:r<d:=by rw [hr];exact Nat.mod_lt _ hd.1
 refine zN ?_
 cases j with
 |zero=>
  repeat refine zR ?_
  refine zN ?_
  rw [za rfl]
  refine zN ?_
  repeat refine zR ?_
  refine zN ?_
  exact retF _ rfl (zi rfl) R2 (by rw [hr,List.drop_zero];rfl)
 |succ j=>
  obtain ⟨x,hx⟩:∃x,l[j]?=some x:=⟨l[j]'zo,List.getElem?_eq_getElem zo⟩
  have hx':=hl.get hx
  repeat refine zR ?_
  refine zN ?_
  rw [zc rfl]
  refine zN ?_
  repeat refine zR ?_
  refine z6 (f:=fun d:Nat=>Value.int .u64 (d:Int)) (j:=j) R7 hv ⟨rfl,zo⟩ hx (fun _=>rfl) R4 fun _=>?_
  repeat refine zR ?_
  refine yg _ R5 (qn k h n hrd hx' hd.2) ?_
  rintro _ rfl
  repeat refine zR ?_
  refine zN ?_
  repeat refine zR ?_
  refine zN ?_
  refine goOn (j,(r*18446744073709551616+x)%d) (by show j<j+1;omega) ⟨rfl,rfl,rfl,by show Value.int .i64 _=Value.int .i64 _;congr 1;omega,trivial⟩ ⟨rfl,rfl,rfl,by show j≤_;omega,?_⟩
  show _%d=wv (l.drop j)%d
  rw [lH hx,(qx (V:=wv (l.drop (j+1))) (Vq:=wv (l.drop (j+1))/d) (r:=r) (a:=x) hd.1 (by rw [hr];exact (Nat.div_add_mod _ _).symm)).2]
theorem fe (k:Nat){a:Option Addr}{l:List Nat}(hb:l.length<1099511627)(hl:WdD l)(hd:0<d∧d<18446744073709551616)(hv:Sl h n 1 (.slice a len cap) (u64s l)):
  CF (cal (k+4)) 219 [.slice a len cap,.int .u64 (d:Int)] h n fun v h' n' w=>∃v1 L,v=.tuple #[v1,.int .u64 ((wv l%d:Nat):Int)]∧ResW n h v1 h' n' w L∧wv L=wv l/d∧L.length≤l.length∧ym n v1:=by
 refine zr (fn:=Tryz.f219) R4 ?_
 have hlen0:=hv.lenW
 subst hlen0
 refine zN ?_
 repeat refine zR ?_
 refine zN ?_
 repeat refine zR ?_
 refine xD (len:=l.length) (cap:=l.length) R9 zo ?_
 rw [show zl (Value.int .u64 0)=[Value.int .u64 0] from rfl,wq]
 repeat refine zR ?_
 refine zN ?_
 repeat refine zR ?_
 refine zN ?_
 repeat refine zR ?_
 refine zN ?_
 refine zV (α:=Nat×List Nat×Nat) (fun x=>[(0,.slice a l.length cap),(1,.int .u64 (d:Int)),(6,.slice (some ⟨3*n+2,0,none⟩) l.length l.length),(7,.int .u64 (x.2.2:Int)),(8,.int .i64 ((x.1:Int)-1))])
  (fun x h' n' w=>n'=n+1∧w=[]∧Ext n h h'∧x.1≤l.length∧(∃e,h' (3*n+2)=some (.row (u64s (List.replicate x.1 0++x.2.1)) e))∧x.1+x.2.1.length=l.length∧WdD x.2.1∧x.2.2<d∧wv (l.drop x.1)=d*wv x.2.1+x.2.2) (fun x=>x.1)
  (l.length,[],0) ⟨rfl,rfl,rfl,rfl,rfl,trivial⟩ ⟨rfl,rfl,Ext.upd zo,Nat.le_refl _,⟨_,by rw [ze,List.append_nil]⟩,by simp,WdD.nil,hd.1,by rw [List.drop_length];rfl⟩ (by show l.length<LL;unfold LL;omega) ?_
 rintro ⟨j,q,r⟩ t h1 _ _ ⟨rfl,rfl,hext,hj,⟨e,hrow⟩,hjl,hq,hr,hV⟩
 simp only at hj hrow hjl hq hr hV
 refine zN ?_
 cases j with
 |zero=>
  rw [List.replicate_zero,List.nil_append] at hrow
  have hql:q.length=l.length:=zo
  repeat refine zR ?_
  refine zN ?_
  rw [za rfl]
  refine zN ?_
  repeat refine zR ?_
  have htr:=xV (k+2) (h:=h1) (n:=n+1) (a:=some ⟨3*n+2,0,none⟩) (len:=l.length) (cap:=l.length) (l:=q) zo (fun _ e=>by injection e with e;rw [←e]) (.at_ zo hrow rfl (Nat.le_refl _) (by rw [zP];omega) (by rw [List.drop_zero,List.take_of_length_le (by rw [zP];omega)]))
  refine zu _ R5 htr ?_
  rintro v' _ _ _ ⟨rfl,rfl,rfl,rfl,hs⟩
  repeat refine zR ?_
  refine zN ?_
  rw [List.drop_zero] at hV
  have h1':wv l/d=wv q:=by rw [hV,Nat.mul_add_div hd.1,Nat.div_eq_of_lt hr,Nat.add_zero]
  have h2':wv l%d=r:=by rw [hV,Nat.mul_add_mod,Nat.mod_eq_of_lt hr]
  refine retH [.slice _ _ _,.int .u64 _] R3 ⟨_,zT q,by rw [h2'];rfl,⟨rfl,by show n≤n+1;omega,hext,hs,NW.trim hq⟩,?_,?_,by show 3*n≤3*n+2;omega⟩
  ·rw [h1'];exact qe _ _
  have:=yU q;omega
 |succ j=>
  obtain ⟨x,hx⟩:∃x,l[j]?=some x:=⟨l[j]'zo,List.getElem?_eq_getElem zo⟩
  have hx':=hl.get hx
  have hv1:=hv.ext hext (Nat.le_succ n)
  repeat refine zR ?_
  refine zN ?_
  rw [zc rfl]
  refine zN ?_
  repeat refine zR ?_
  refine z6 (f:=fun d:Nat=>Value.int .u64 (d:Int)) (j:=j) R7 hv1 ⟨rfl,zo⟩ hx (fun _=>rfl) R4 fun _=>?_
  repeat refine zR ?_
  refine yg _ R5 (qn k h1 (n+1) hr hx' hd.2) ?_
  rintro _ rfl
  repeat refine zR ?_
  refine y5 (j:=j) (v:=.int .u64 (((r*18446744073709551616+x)/d:Nat):Int)) R8 zo (by rw [zP];simp;omega) hrow (by show 3*n≤3*n+2;omega) (fun _=>rfl) R3 (fun _=>rfl) rfl fun _=>?_
  rw [yo,jI]
  repeat refine zR ?_
  refine zN ?_
  repeat refine zR ?_
  refine zN ?_
  obtain ⟨g1,g2⟩:=qx (V:=wv (l.drop (j+1))) (Vq:=wv q) (r:=r) (a:=x) hd.1 hV
  refine goOn (j,(r*18446744073709551616+x)/d::q,(r*18446744073709551616+x)%d) (by show j<j+1;omega) ⟨rfl,rfl,rfl,rfl,by show Value.int .i64 _=Value.int .i64 _;congr 1;omega,trivial⟩ ⟨rfl,rfl,fun b hb=>(zh zo).trans (hext b hb),by show j≤_;omega,⟨e,ze _ _ _⟩,by show j+(_::q).length=_;simp;omega,?_,Nat.mod_lt _ hd.1,?_⟩
  ·intro y hy
   rcases List.mem_cons.1 hy with rfl|hy
   ·exact fY hr hx'
   exact hq y hy
  show wv (l.drop j)=d*wv (_::q)+_
  rw [lH hx,←g2]
  have:=Nat.div_add_mod (x+18446744073709551616*wv (l.drop (j+1))) d
  rw [g1] at this
  exact this.symm
end
theorem ur {c:Nat}(h:c<10):(UInt8.ofNat (48+c)).toNat=48+c:=by
 rw [UInt8.toNat_ofNat',Nat.mod_eq_of_lt zo]
theorem qo:∀V,AllD ((decB V).map UInt8.ofNat)∧dval ((decB V).map UInt8.ofNat)=V:=by
 intro V
 induction V using Nat.strongRecOn with
 |ind V ih=>
  by_cases h0:V=0
  ·subst h0
   unfold decB
   rw [yO]
   exact ⟨fun b hb=>absurd hb (by simp),rfl⟩
  have e:decB V=decB (V/10)++[48+V%10]:=by
   unfold decB
   rw [wf h0]
   simp
  obtain ⟨h1,h2⟩:=ih (V/10) zo
  have h3:=ur (c:=V%10) zo
  rw [e,List.map_append,List.map_cons,List.map_nil]
  refine ⟨fun b hb=>?_,?_⟩
  ·rcases List.mem_append.1 hb with hb|hb
   ·exact h1 b hb
   rw [List.mem_singleton.1 hb,h3];omega
  rw [sN,h2,h3];omega
theorem xA (V:Nat):AllD (decT V)∧dval (decT V)=V∧decT V≠[]:=by
 unfold decT
 by_cases h0:V=0
 ·rw [if_pos h0,h0]
  exact ⟨fun b hb=>by rw [List.mem_singleton.1 hb];decide,rfl,by simp⟩
 rw [if_neg h0]
 refine ⟨(qo V).1,(qo V).2,fun e=>?_⟩
 have:=(qo V).2
 rw [e] at this
 exact h0 this.symm
def zcg (t:List UInt8)(j:Nat):Prop:=j≤t.length∧(∀i,i<j→t[i]?≠some 47)∧(j=t.length∨t[j]?=some 47)
theorem AllD.slash {a:List UInt8}(h:AllD a):a[i]?≠some 47:=fun e=>by
 have:=h 47 (List.mem_of_getElem? e)
 have e2:(47:UInt8).toNat=47:=rfl
 omega
theorem zcg.uniq {a r:List UInt8}(ha:AllD a)(hr:r=[]∨∃r',r=47::r')(h:zcg (a++r) j):j=a.length:=by
 obtain ⟨h1,h2,h3⟩:=h
 rcases Nat.lt_trichotomy j a.length with hlt|rfl|hgt
 ·exfalso
  rcases h3 with h3|h3
  ·rw [List.length_append] at h3;omega
  rw [List.getElem?_append_left hlt] at h3
  exact ha.slash h3
 ·rfl
 exfalso
 rcases hr with rfl|⟨r',rfl⟩
 ·simp at h1;omega
 refine h2 a.length hgt ?_
 rw [List.getElem?_append_right (Nat.le_refl _),Nat.sub_self]
 rfl
def xM (s:List UInt8):Prop:=∃q:Rat,ratT q=s
def zw (s:List UInt8):Bool:=s[0]?==some 45
def yG (s:List UInt8):List UInt8:=if zw s then s.drop 1 else s
theorem th (q:Rat):zw (ratT q)=decide (q.num<0)∧yG (ratT q)=decT q.num.natAbs++(if q.den=1 then [] else 47::decT q.den):=by
 have hm:zw (ratT q)=decide (q.num<0):=by
  unfold zw ratT
  by_cases hn:q.num<0
  ·rw [if_pos hn,decide_eq_true hn];rfl
  rw [if_neg hn,decide_eq_false hn,List.nil_append]
  obtain ⟨h1,_,h3⟩:=xA q.num.natAbs
  rw [List.getElem?_append_left (List.length_pos_iff.2 h3)]
  cases hd:(decT q.num.natAbs)[0]? with
  |none=>rfl
  |some b=>
   have:=h1 b (List.mem_of_getElem? hd)
   show (some b==some 45)=false
   have hne:b≠45:=fun e=>by subst e;have e2:(45:UInt8).toNat=45:=rfl;omega
   simpa using hne
 refine ⟨hm,?_⟩
 unfold yG
 rw [hm]
 by_cases hn:q.num<0
 ·rw [if_pos (decide_eq_true hn)]
  unfold ratT
  rw [if_pos hn]
  rfl
 rw [if_neg (by simpa using hn)]
 unfold ratT
 rw [if_neg hn]
 rfl
theorem gI {s:List UInt8}(hs:ratT q=s)(hj:zcg (yG s) j):zw s=decide (q.num<0)∧(yG s).take j=decT q.num.natAbs∧(q.den=1→j=(yG s).length)∧(q.den≠1→j<(yG s).length∧(yG s).drop (j+1)=decT q.den):=by
 subst hs
 obtain ⟨h1,h2⟩:=th q
 rw [h2] at hj ⊢
 have hu:=hj.uniq (xA _).1 (by by_cases hd:q.den=1<;>simp [hd])
 subst hu
 refine ⟨h1,List.take_left' rfl,fun hd=>by rw [if_pos hd];simp,fun hd=>?_⟩
 rw [if_neg hd]
 refine ⟨by simp,?_⟩
 rw [←List.drop_drop,List.drop_left' rfl]
 rfl
theorem oH (s:List UInt8):(yG s).length≤s.length:=by
 unfold yG
 split
 ·rw [List.length_drop];omega
 exact Nat.le_refl _
section
section
variable {X:CtxF}{ops r:List Oper}{t:TF}{h:HF}{n:Nat}{w:List Nat}{Q:SV→Prop}{o:Oper}{d:Tmp}
theorem vm {i:Operand}{s:List UInt8}(hw:zg ops t o=true∧o.dst=some d∧zm X.nt (some d)=true∧o.op=.slice ty x (some i) none none∧X.E.und ty=some .string∧evF t x=.string ⟨⟨s⟩⟩∧evF t i=.int ik ji∧ji=(j:Int))(hl:j≤s.length)
  (k:EO X ops r ⟨upd t d (.string ⟨⟨s.drop j⟩⟩),h,n,w⟩ Q):EO X ops (o::r) ⟨t,h,n,w⟩ Q:=by
 obtain ⟨hw,hd,hn,ho,hu,hx,hj,hji⟩:=hw
 subst hji
 refine zF ⟨hw,hd,hn,(by rw [ho];rfl)⟩ ?_ k
 rw [ho]
 show xF X.E ty (evF t x) (some (evF t i)) none=_
 rw [hx,hj]
 have h1:(0:Int)≤(j:Int)∧(j:Int)≤(s.length:Int):=zo
 simp only [xF,hu,bnd,if_pos h1,Int.toNat_natCast]
 rw [List.take_of_length_le (by rw [List.length_drop];exact Nat.le_refl _)]
theorem tb {i:Operand}{s:List UInt8}(hw:zg ops t o=true∧o.dst=some d∧zm X.nt (some d)=true∧o.op=.slice ty x none (some i) none∧X.E.und ty=some .string∧evF t x=.string ⟨⟨s⟩⟩∧evF t i=.int ik ji∧ji=(j:Int))(hl:j≤s.length)
  (k:EO X ops r ⟨upd t d (.string ⟨⟨s.take j⟩⟩),h,n,w⟩ Q):EO X ops (o::r) ⟨t,h,n,w⟩ Q:=by
 obtain ⟨hw,hd,hn,ho,hu,hx,hj,hji⟩:=hw
 subst hji
 refine zF ⟨hw,hd,hn,(by rw [ho];rfl)⟩ ?_ k
 rw [ho]
 show xF X.E ty (evF t x) none (some (evF t i))=_
 rw [hx,hj]
 have h1:(0:Int)≤(j:Int)∧(j:Int)≤(s.length:Int):=zo
 simp only [xF,hu,bnd,if_pos h1,Int.toNat_natCast,List.drop_zero,Nat.sub_zero]
end
theorem RatR.off {h:HF}{n:Nat}{y:Option BF}(r:RatR h n n1 n2 d1 d2 q ln ld)(h1:Off b n2)(h2:Off b d2):RatR (upd h b y) n n1 n2 d1 d2 q ln ld:=⟨r.num.off h1,r.neg,r.sl.off h2,r.norm,r.val⟩
theorem RatR.ones {h:HF}{n:Nat}(r:RatR h n n1 n2 d1 d2 q ln ld):ones [n1,n2,d1,d2]=true:=by
 rw [r.num.neg]
 show GL.ones (n2::_)=true
 rw [r.num.sl.ones,r.neg]
 show GL.ones (d2::_)=true
 rw [r.sl.ones]
 rfl
theorem RatR.zero (h:HF)(n:Nat):RatR h n (.bool false) (.slice none 0 0) (.bool false) (.slice none 0 0) 0 [] []:=⟨⟨rfl,.nil (.inl rfl),Norm.nil,rfl⟩,rfl,.nil (.inl rfl),Norm.nil,rfl⟩
theorem dn (h:q.den=1):q=((q.num:Int):Rat):=by
 apply Rat.ext
 ·rw [Rat.num_intCast]
 rw [Rat.den_intCast,h]
theorem RatR.whole {h:HF}{n:Nat}{c1 c2:Value}{x:Int}{l:List Nat}(r:IntR h n c1 c2 x l):RatR h n c1 c2 (.bool false) (.slice none 0 0) (x:Rat) l []:=⟨by rw [Rat.num_intCast];exact r,rfl,.nil (.inl rfl),Norm.nil,by rw [Rat.den_intCast];rfl⟩
def RdR (n:Nat)(h:HF)(s:List UInt8)(v:Value)(h':HF)(n':Nat)(w:List Nat):Prop:=w=[]∧n≤n'∧Ext n h h'∧∃n1 n2 d1 d2 q ln ld ok,v=.tuple #[.agg #[n1,n2,d1,d2],.bool ok]∧RatR h' n' n1 n2 d1 d2 q ln ld∧ln.length≤s.length∧ld.length≤s.length∧ym n n2∧ym n d2∧(ok=true→ratT q=s)∧(xM s→ok=true)
theorem zei (k:Nat)(h:HF)(n:Nat)(s:List UInt8)(hs:s.length<1000000):CF (cal (k+6)) 77 [.string ⟨⟨s⟩⟩] h n (RdR n h s):=by
 refine zr (fn:=Tryz.f77) R4 ?_
 refine zN ?_
 refine yp R5 ?_
 repeat refine zR ?_
 refine zN ?_
 repeat refine zR ?_
 simp only [zZ,yc,zk,yd]
 generalize hh:upd h (3*n+2) _=h1
 have hr1:∃e,h1 (3*n+2)=some (.row [.bool false,.slice none 0 0,.bool false,.slice none 0 0] e):=⟨_,by rw [←hh,ze];rfl⟩
 have hx1:Ext n h h1:=by rw [←hh];exact Ext.upd zo
 clear hh
 obtain ⟨e1,hr1⟩:=hr1
 have hbl:=oH s
 refine pC [(0,.string ⟨⟨s⟩⟩),(2,.pointer (some ⟨3*n+2,0,none⟩)),(4,.string ⟨⟨s⟩⟩),(5,.bool (zw s))] (fun h' n' w=>h1=h'∧n'=n+1∧w=[]) ?_ ?_
 ·refine zN ?_
  refine zM ?_
  refine st_I (ik:=.i64) (a:=(s.length:Int)) R5 ?_
  by_cases hs0:s.length=0
  ·repeat refine zR ?_
   refine zN ?_
   exact vf ⟨rfl,rfl,rfl,by rw [List.length_eq_zero_iff.1 hs0];rfl,trivial⟩ ⟨rfl,rfl,rfl⟩
  obtain ⟨b,hb⟩:∃b,s[0]?=some b:=⟨s[0]'zo,List.getElem?_eq_getElem zo⟩
  refine qK R6 zo ?_
  repeat refine zR ?_
  refine yq (j:=0) R8 hb ?_
  have hm:zw s=decide (b.toNat=45):=by
   unfold zw
   rw [hb]
   by_cases h45:b=45
   ·subst h45;rfl
   rw [show decide (b.toNat=45)=false from decide_eq_false (fun e=>h45 (UInt8.toNat_inj.1 e))]
   simpa using h45
  by_cases h45:b.toNat=45
  ·repeat refine zR ?_
   refine zN ?_
   exact vf ⟨rfl,rfl,rfl,by rw [hm,decide_eq_true h45];rfl,trivial⟩ ⟨rfl,rfl,rfl⟩
  repeat refine zR ?_
  refine zN ?_
  exact vf ⟨rfl,rfl,rfl,by rw [hm,decide_eq_false h45];rfl,trivial⟩ ⟨rfl,rfl,rfl⟩
 rintro t _ _ _ ⟨rfl,rfl,rfl⟩
 refine zN ?_
 repeat refine zR ?_
 refine zN ?_
 refine pC [(0,.string ⟨⟨s⟩⟩),(2,.pointer (some ⟨3*n+2,0,none⟩)),(4,.string ⟨⟨yG s⟩⟩),(5,.bool (zw s))] (fun h' n' w=>h1=h'∧n'=n+1∧w=[]) ?_ ?_
 ·by_cases hm:zw s=true
  ·rw [zc (by show Value.bool (zw s)=_;rw [hm])]
   refine zN ?_
   refine zM ?_
   have hs1:1≤s.length:=by
    unfold zw at hm
    cases s with
    |nil=>simp at hm
    |cons=>simp
   refine vm (j:=1) R8 hs1 ?_
   repeat refine zR ?_
   refine zN ?_
   exact vf ⟨rfl,rfl,by unfold yG;rw [if_pos hm];rfl,rfl,trivial⟩ ⟨rfl,rfl,rfl⟩
  rw [za (by show Value.bool (zw s)=_;rw [Bool.eq_false_iff.2 hm])]
  refine zN ?_
  exact vf ⟨rfl,rfl,by unfold yG;rw [if_neg hm];rfl,rfl,trivial⟩ ⟨rfl,rfl,rfl⟩
 rintro t _ _ _ ⟨rfl,rfl,rfl⟩
 generalize hT:yG s=T at hbl
 refine zN ?_
 refine zM ?_
 refine st_I (ik:=.i64) (a:=(T.length:Int)) R5 ?_
 repeat refine zR ?_
 refine zN ?_
 repeat refine zR ?_
 simp only [zZ,yc,zk,yd]
 refine yI (α:=Nat) (fun z=>[(0,.string ⟨⟨s⟩⟩),(2,.pointer (some ⟨3*n+2,0,none⟩)),(4,.string ⟨⟨T⟩⟩),(5,.bool (zw s)),(6,.int .i64 (z:Int))]) (fun z h' n' w=>h1=h'∧n'=n+1∧w=[]∧zcg T z) ?_ ?_
 ·refine zN ?_
  refine zV (α:=Nat) (fun z=>[(0,.string ⟨⟨s⟩⟩),(2,.pointer (some ⟨3*n+2,0,none⟩)),(4,.string ⟨⟨T⟩⟩),(5,.bool (zw s)),(6,.int .i64 (T.length:Int)),(7,.int .i64 (z:Int))]) (fun z h' n' w=>h1=h'∧n'=n+1∧w=[]∧z≤T.length∧∀i,i<z→T[i]?≠some 47) (fun z=>T.length-z) 0 ⟨rfl,rfl,rfl,rfl,rfl,rfl,trivial⟩ ⟨rfl,rfl,rfl,Nat.zero_le _,fun i hi=>absurd hi (Nat.not_lt_zero i)⟩ (by show T.length-0<LL;unfold LL;omega) ?_
  rintro z t _ _ _ ⟨rfl,rfl,rfl,hz,hno⟩
  refine zN ?_
  refine zM ?_
  refine zM ?_
  refine st_I (ik:=.i64) (a:=(T.length:Int)) R5 ?_
  by_cases hze:z=T.length
  ·repeat refine zR ?_
   refine zN ?_
   rw [za rfl]
   refine zN ?_
   exact zS T.length ⟨rfl,rfl,rfl,rfl,rfl,trivial⟩ ⟨rfl,rfl,rfl,Nat.le_refl _,by rw [←hze];exact hno,.inl rfl⟩
  obtain ⟨b,hb⟩:∃b,T[z]?=some b:=⟨T[z]'zo,List.getElem?_eq_getElem zo⟩
  repeat refine zR ?_
  refine zN ?_
  rw [zc rfl]
  refine zN ?_
  refine zM ?_
  refine zM ?_
  refine yq (j:=z) R8 hb ?_
  by_cases h47:b.toNat=47
  ·have hb47:b=47:=UInt8.toNat_inj.1 h47
   subst hb47
   repeat refine zR ?_
   refine zN ?_
   rw [zc rfl]
   refine zN ?_
   repeat refine zR ?_
   refine zN ?_
   exact zS z ⟨rfl,rfl,rfl,rfl,rfl,trivial⟩ ⟨rfl,rfl,rfl,hz,hno,.inr hb⟩
  repeat refine zR ?_
  refine zN ?_
  rw [za rfl]
  refine zN ?_
  repeat refine zR ?_
  refine zN ?_
  refine goOn (z+1) (by show T.length-(z+1)<T.length-z;omega) ⟨rfl,rfl,rfl,rfl,rfl,by show Value.int .i64 _=Value.int .i64 _;congr 1,trivial⟩ ⟨rfl,rfl,rfl,by show z+1≤T.length;omega,fun i hi=>?_⟩
  by_cases hiz:i<z
  ·exact hno i hiz
  have:i=z:=zo
  subst this
  rw [hb]
  intro e
  injection e with e
  subst e
  exact h47 rfl
 rintro z t _ _ _ ⟨rfl,rfl,rfl,hsl⟩
 refine zN ?_
 have hzl:z≤T.length:=hsl.1
 have hparts:∀q0,ratT q0=s→zw s=decide (q0.num<0)∧T.take z=decT q0.num.natAbs∧(q0.den=1→z=T.length)∧(q0.den≠1→z<T.length∧T.drop (z+1)=decT q0.den):=by
  intro q0 hq0
  have:=gI hq0 (j:=z) (by rw [hT];exact hsl)
  rw [hT] at this
  exact this
 refine zM ?_
 refine zM ?_
 refine tb (j:=z) R8 hzl ?_
 have htl:(T.take z).length≤s.length:=by rw [List.length_take];omega
 refine zu _ R5 (sH (k+2) _ _ (T.take z) zo) ?_
 rintro _ h2 n2 _ ⟨rfl,hn2,hx2,c1,c2,L,ok,x,rfl,ix,hLl,fx,hok1,hok2⟩
 repeat refine zR ?_
 refine yp R5 ?_
 refine zI [c1,c2] R7 ix.ones (ze _ _ _) rfl (by show 3*n≤_;omega) ?_
 rw [xC]
 generalize hh:upd h2 (3*n2+2) _=h3
 have hx3:Ext n2 h2 h3:=by rw [←hh];exact Ext.upd zo
 have hp8:∃e,h3 (3*n2+2)=some (.row [c1,c2] e):=⟨_,by rw [←hh,ze]⟩
 clear hh
 obtain ⟨e8,hp8⟩:=hp8
 have ix3:=ix.ext hx3 zs
 have hr3:h3 (3*n+2)=_:=(hx3 _ zo).trans ((hx2 _ zo).trans hr1)
 have hx13:Ext n h h3:=fun b hb=>(hx3 b zo).trans ((hx2 b zo).trans (hx1 b hb))
 repeat refine zR ?_
 refine zN ?_
 cases ok with
 |false=>
  repeat refine zR ?_
  refine zN ?_
  rw [zc rfl]
  refine zN ?_
  refine zF (v:=.agg #[.bool false,.slice none 0 0,.bool false,.slice none 0 0]) R4 rfl ?_
  refine zI [.bool false,.slice none 0 0,.bool false,.slice none 0 0] R7 rfl hr3 rfl (by show 3*n≤_;omega) ?_
  repeat refine zR ?_
  refine zN ?_
  refine um R6 (ze _ _ _) R2 ⟨rfl,by show n≤n2+1;omega,fun b hb=>(zh zo).trans (hx13 b hb),_,_,_,_,0,[],[],false,rfl,RatR.zero _ _,Nat.zero_le _,Nat.zero_le _,trivial,trivial,fun h=>absurd h (by simp),?_⟩
  rintro ⟨q0,hq0⟩
  obtain ⟨_,p2,_,_⟩:=hparts q0 hq0
  have hd:=xA q0.num.natAbs
  rw [←p2] at hd
  exact absurd (hok1 ⟨hd.1,hd.2.2⟩).1 (by simp)
 |true=>
 repeat refine zR ?_
 refine zN ?_
 rw [za rfl]
 refine zN ?_
 have hall:=hok2 rfl
 have hxv:=(hok1 hall).2
 obtain ⟨a,len,cap,rfl,_⟩:=ix3.sl.len
 have e1:=ix3.sl.lenU
 subst e1
 repeat refine zR ?_
 refine zC R6 hp8 (v:=.slice a L.length cap) R2 ?_
 refine zu _ R5 (vu (k+4) _ _ (zw s) a L.length cap) ?_
 rintro _ h4 n4 _ ⟨rfl,rfl,rfl,hx4⟩
 refine zF (v:=.agg #[.bool (zw s&&decide (0<L.length)),.slice a L.length cap,.bool false,.slice none 0 0]) R4 rfl ?_
 refine yp R5 ?_
 refine zI [.bool (zw s&&decide (0<L.length)),.slice a L.length cap,.bool false,.slice none 0 0] R7 rfl (ze _ _ _) rfl (by show 3*n≤_;omega) ?_
 rw [xC]
 generalize hh:upd h4 (3*(n2+1+1)+2) _=h5
 have hx5:Ext (n2+1+1) h4 h5:=by rw [←hh];exact Ext.upd zo
 have hp10:∃e,h5 (3*(n2+1+1)+2)=some (.row [.bool (zw s&&decide (0<L.length)),.slice a L.length cap,.bool false,.slice none 0 0] e):=⟨_,by rw [←hh,ze]⟩
 clear hh
 have hr5:h5 (3*n+2)=_:=(hx5 _ zo).trans ((hx4 _ zo).trans hr3)
 have hx15:Ext n h h5:=fun b hb=>(hx5 b zo).trans ((hx4 b zo).trans (hx13 b hb))
 obtain ⟨x',hx'⟩:∃x':Int,x'=if zw s then -(x:Int) else x:=⟨_,rfl⟩
 have iN:IntR h5 (n2+1+1+1) (.bool (zw s&&decide (0<L.length))) (.slice a L.length cap) x' L:=by
  refine ri ((ix3.sl.ext hx4 zs).ext hx5 zs) ix3.norm ?_ fun h0=>?_
  ·rw [ix3.val,hx'];split<;>omega
  rw [hx'] at h0 ⊢
  by_cases hm:zw s=true
  ·rw [if_pos hm] at h0 ⊢
   rw [hm,decide_eq_true zo]
  rw [if_neg hm,Bool.eq_false_iff.2 hm,decide_eq_false zo]
 have hnum:∀q0,ratT q0=s→x'=q0.num:=by
  intro q0 hq0
  obtain ⟨p1,p2,_,_⟩:=hparts q0 hq0
  rw [hx',hxv,p2,(xA _).2.1,p1]
  by_cases hn:q0.num<0
  ·rw [if_pos (decide_eq_true hn)];omega
  rw [if_neg (by simpa using hn)];omega
 clear hx'
 refine zN ?_
 refine zM ?_
 refine zM ?_
 refine st_I (ik:=.i64) (a:=(T.length:Int)) R5 ?_
 refine pE R6 ?_
 refine zN ?_
 refine yI (α:=(Value×Value×Value×Value)×Rat×List Nat×List Nat) (fun _=>[(0,.string ⟨⟨s⟩⟩),(2,.pointer (some ⟨3*n+2,0,none⟩)),(10,.pointer (some ⟨3*(n2+1+1)+2,0,none⟩))])
  (fun z h' n' w=>w=[]∧n2+1+1+1≤n'∧Ext n h h'∧h' (3*n+2)=some (.row [.bool false,.slice none 0 0,.bool false,.slice none 0 0] e1)∧(∃e,h' (3*(n2+1+1)+2)=some (.row [z.1.1,z.1.2.1,z.1.2.2.1,z.1.2.2.2] e))∧RatR h' n' z.1.1 z.1.2.1 z.1.2.2.1 z.1.2.2.2 z.2.1 z.2.2.1 z.2.2.2∧z.2.2.1.length≤s.length∧z.2.2.2.length≤s.length∧ym (n+1) z.1.2.1∧ym (n+1) z.1.2.2.2∧∀q0,ratT q0=s→z.2.1=q0) ?_ ?_
 ·by_cases hzT:(z:Int)<(T.length:Int)
  ·rw [zc (by show Value.bool (decide ((z:Int)<(T.length:Int)))=_;rw [decide_eq_true hzT])]
   refine zN ?_
   repeat refine zR ?_
   refine vm (j:=z+1) R8 zo ?_
   have hdl:(T.drop (z+1)).length≤s.length:=by rw [List.length_drop];omega
   refine zu _ R5 (sH (k+2) _ _ (T.drop (z+1)) zo) ?_
   rintro _ h6 n6 _ ⟨rfl,hn6,hx6,d1,d2,D,okd,y,rfl,iy,hDl,fy,hokd1,hokd2⟩
   repeat refine zR ?_
   refine yp R5 ?_
   refine zI [d1,d2] R7 iy.ones (ze _ _ _) rfl (by show 3*n≤_;omega) ?_
   rw [xC]
   generalize hh:upd h6 (3*n6+2) _=h7
   have hx7:Ext n6 h6 h7:=by rw [←hh];exact Ext.upd zo
   have hp11:∃e,h7 (3*n6+2)=some (.row [d1,d2] e):=⟨_,by rw [←hh,ze]⟩
   clear hh
   obtain ⟨e11,hp11⟩:=hp11
   have hr7:h7 (3*n+2)=_:=(hx7 _ zo).trans ((hx6 _ zo).trans hr5)
   have hx17:Ext n h h7:=fun b hb=>(hx7 b zo).trans ((hx6 b zo).trans (hx15 b hb))
   have iy7:=iy.ext hx7 zs
   have hden:∀q0,ratT q0=s→okd=true∧y=q0.den:=by
    intro q0 hq0
    obtain ⟨p1,p2,p3,p4⟩:=hparts q0 hq0
    have hd1:q0.den≠1:=fun e=>by have:=p3 e;omega
    have hd:=xA q0.den
    rw [←(p4 hd1).2] at hd
    have:=hokd1 ⟨hd.1,hd.2.2⟩
    rw [hd.2.1] at this
    exact this
   repeat refine zR ?_
   refine zN ?_
   by_cases hfine:okd=true∧y≠0
   ·obtain ⟨rfl,hy0⟩:=hfine
    repeat refine zR ?_
    refine zK (v:=.agg #[d1,d2]) R5 (zL R2 hp11 rfl zb rfl) ?_
    refine yg _ R5 (kg (k+4) iy7) ?_
    rintro _ rfl
    rw [Int.sign_eq_one_of_pos zo]
    repeat refine zR ?_
    refine zN ?_
    rw [za rfl]
    refine zN ?_
    obtain ⟨e10,hp10⟩:=hp10
    have hp10':h7 (3*(n2+1+1)+2)=_:=(hx7 _ zo).trans ((hx6 _ zo).trans hp10)
    repeat refine zR ?_
    refine zK (v:=.agg #[.bool (zw s&&decide (0<L.length)),.slice a L.length cap]) R5 (zL R2 hp10' rfl zb rfl) ?_
    refine zK (v:=.agg #[d1,d2]) R5 (zL R2 hp11 rfl zb rfl) ?_
    have iN7:=(iN.ext hx6 hn6).ext hx7 zs
    refine zu _ R5 (cF k iN7 iy7 zo zo) ?_
    rintro _ h8 n8 _ ⟨rfl,hn8,hx8,u1,u2,v1,v2,ln,ld,rfl,rq,hl1,hl2,o1,o2⟩
    have hp10'':h8 (3*(n2+1+1)+2)=_:=(hx8 _ zo).trans hp10'
    refine zI [u1,u2,v1,v2] R7 rq.ones hp10'' rfl (by show 3*n≤_;omega) ?_
    refine zN ?_
    have f1:ym (n+1) u2:=by
     rcases o1 with rfl|o1
     ·exact fx
     exact o1.mono zo
    have f2:ym (n+1) v2:=by
     rcases o2 with rfl|o2
     ·exact fy.mono zo
     exact o2.mono zo
    have g1:Off (3*(n2+1+1)+2) u2:=by
     rcases o1 with rfl|o1
     ·exact ix.sl.below.off zo
     exact o1.off zo
    have g2:Off (3*(n2+1+1)+2) v2:=by
     rcases o2 with rfl|o2
     ·exact fy.off zo
     exact o2.off zo
    refine zS ((u1,u2,v1,v2),Rat.divInt x' (y:Int),ln,ld) ⟨rfl,rfl,rfl,trivial⟩ ⟨rfl,by show n2+1+1+1≤n8;omega,fun b hb=>(zh zo).trans ((hx8 b zo).trans (hx17 b hb)),(zh zo).trans ((hx8 _ zo).trans hr7),⟨_,ze _ _ _⟩,rq.off g1 g2,by show ln.length≤s.length;omega,by show ld.length≤s.length;omega,f1,f2,fun q0 hq0=>?_⟩
    show Rat.divInt x' (y:Int)=q0
    rw [hnum q0 hq0,(hden q0 hq0).2]
    exact Rat.num_divInt_den q0
   have hbad:¬xM s:=fun ⟨q0,hq0⟩=>hfine ⟨(hden q0 hq0).1,by rw [(hden q0 hq0).2];exact q0.den_nz⟩
   cases okd with
   |false=>
    repeat refine zR ?_
    refine zN ?_
    rw [zc rfl]
    refine zN ?_
    refine zF (v:=.agg #[.bool false,.slice none 0 0,.bool false,.slice none 0 0]) R4 rfl ?_
    refine zI [.bool false,.slice none 0 0,.bool false,.slice none 0 0] R7 rfl hr7 rfl (by show 3*n≤_;omega) ?_
    repeat refine zR ?_
    refine zN ?_
    exact um R6 (ze _ _ _) R2 ⟨rfl,by show n≤n6+1;omega,fun b hb=>(zh zo).trans (hx17 b hb),_,_,_,_,0,[],[],false,rfl,RatR.zero _ _,Nat.zero_le _,Nat.zero_le _,trivial,trivial,fun h=>absurd h (by simp),fun hs=>absurd hs hbad⟩
   |true=>
    have hy0:y=0:=Classical.byContradiction fun e=>hfine ⟨rfl,e⟩
    subst hy0
    repeat refine zR ?_
    refine zK (v:=.agg #[d1,d2]) R5 (zL R2 hp11 rfl zb rfl) ?_
    refine yg _ R5 (kg (k+4) iy7) ?_
    rintro _ rfl
    repeat refine zR ?_
    refine zN ?_
    rw [zc rfl]
    refine zN ?_
    refine zF (v:=.agg #[.bool false,.slice none 0 0,.bool false,.slice none 0 0]) R4 rfl ?_
    refine zI [.bool false,.slice none 0 0,.bool false,.slice none 0 0] R7 rfl hr7 rfl (by show 3*n≤_;omega) ?_
    repeat refine zR ?_
    refine zN ?_
    exact um R6 (ze _ _ _) R2 ⟨rfl,by show n≤n6+1;omega,fun b hb=>(zh zo).trans (hx17 b hb),_,_,_,_,0,[],[],false,rfl,RatR.zero _ _,Nat.zero_le _,Nat.zero_le _,trivial,trivial,fun h=>absurd h (by simp),fun hs=>absurd hs hbad⟩
  rw [za (by show Value.bool (decide ((z:Int)<(T.length:Int)))=_;rw [decide_eq_false hzT])]
  refine zN ?_
  refine zS ((.bool (zw s&&decide (0<L.length)),.slice a L.length cap,.bool false,.slice none 0 0),(x':Rat),L,[]) ⟨rfl,rfl,rfl,trivial⟩ ⟨rfl,Nat.le_refl _,hx15,hr5,hp10,RatR.whole iN,by show L.length≤s.length;omega,Nat.zero_le _,fx,trivial,fun q0 hq0=>?_⟩
  obtain ⟨p1,p2,p3,p4⟩:=hparts q0 hq0
  have hd:q0.den=1:=Classical.byContradiction fun e=>by have:=(p4 e).1;omega
  show (x':Rat)=q0
  rw [hnum q0 hq0]
  exact (dn hd).symm
 clear hx15 hr5 hp10 iN hx5 hx4 hr3 hx13 hp8
 rintro ⟨⟨u1,u2,v1,v2⟩,q,ln,ld⟩ t h9 n9 _ ⟨rfl,hn9,hx9,hr9,⟨e10,hp9⟩,rq,hl1,hl2,f1,f2,hq0⟩
 simp only at hp9 rq hl1 hl2 f1 f2 hq0
 refine zN ?_
 refine zj [0,0,2,0,14,7,63] rfl ?_
 refine yf (v:=.agg #[u1,u2,v1,v2]) R6 (zL R2 hp9 rfl zb rfl) R2 ?_
 refine yf (v:=.agg #[u1,u2,v1,v2]) R6 (zL R2 hp9 rfl zb rfl) R2 ?_
 refine bi _ R7 (ei (k+1) rq zo) ?_
 rintro _ rfl
 refine zE ?_
 refine dr_B (a:=ratT q==s) R5 ?_
 refine xu (cs:=[u1,u2,v1,v2]) R7 rq.ones hr9 zb (by show 3*n≤_;omega) R3 ?_
 repeat refine zE ?_
 refine zN ?_
 exact um R6 (ze _ _ _) R2 ⟨rfl,by show n≤n9;omega,fun b hb=>(zh zo).trans (hx9 b hb),_,_,_,_,q,ln,ld,_,rfl,rq.off (f1.off zo) (f2.off zo),hl1,hl2,f1.mono zo,f2.mono zo,fun he=>eq_of_beq he,fun ⟨q0,hq⟩=>by rw [hq0 q0 hq,hq];exact beq_self_eq_true s⟩
end
section
variable {lo:Nat}
section
variable {X:CtxF}{ops r:List Oper}{t:TF}{h:HF}{n:Nat}{w:List Nat}{Q:SV→Prop}{o:Oper}{d:Tmp}
theorem zaj {el:TypeId}{s:List UInt8}(hw:zg ops t o=true)(hd:o.dst=some d)(hn:zm X.nt (some d)=true)(ho:o.op=.convert ty e x)(hx:evF t x=.string ⟨⟨s⟩⟩)(hm:vH X.E ty e (.string ⟨⟨s⟩⟩)=some ⟨s.map fun b=>Value.int .u8 b.toNat,el,true,some (s.length,s.length)⟩)
  (k:EO X ops r ⟨upd t d (.slice (some ⟨3*n+1,0,none⟩) s.length s.length),upd h (3*n+1) (some (.row (s.map fun b=>Value.int .u8 b.toNat) el)),n+1,w⟩ Q):EO X ops (o::r) ⟨t,h,n,w⟩ Q:=by
 obtain ⟨s',h1,h2⟩:=k
 refine ⟨s',?_,h2⟩
 rw [seqF,hw]
 have hc:cls o.op=4:=by rw [ho];rfl
 have h3:mkE X.E o.op (evF t)=some ⟨s.map fun b=>Value.int .u8 b.toNat,el,true,some (s.length,s.length)⟩:=by rw [ho];show vH X.E ty e (evF t x)=_;rw [hx];exact hm
 simp only [opF,hc,h3,mkF,xN,hd,hn,addW]
 exact h1
end
theorem Gro.inv2 {h:HF}{n:Nat}(g:Gro h lo n e sz v len c)(h0:len≠0):∃b,v=.slice (some ⟨b,0,none⟩) len len∧gro b=true∧3*lo≤b∧b<3*n∧h b=some (.row c e)∧c.length=len*sz:=by
 cases g with
 |nil=>exact absurd rfl h0
 |at_ hg hlo hb hr hl ho=>exact ⟨_,rfl,hg,hlo,hb,hr,hl⟩
theorem te {E D:List Nat}{x:Nat}(d:Nat)(h:D[E.length]?=some x):(E++D.drop E.length).set E.length d=(E++[d])++D.drop (E++[d]).length:=by
 rw [xt h,List.set_append_right _ _ (Nat.le_refl _),Nat.sub_self]
 simp
theorem jK (h:i≤19):10^i≤10000000000000000000:=Nat.pow_le_pow_right zd h
theorem NW.len_pow (h:NW L)(hv:wv L<10^i):L.length≤i:=
 h.len_le (Nat.lt_of_lt_of_le hv (Nat.pow_le_pow_left zd i))
theorem NW.of_low (h:WdD L)(hl:L.length=i+1)(hv:18446744073709551616^i≤wv L):NW L:=by
 obtain ⟨l,d,rfl⟩:=Go.Proofs.YtlmbghgklnmlkaaGreatDoor.snoc (l:=L) (by intro e;rw [e] at hl;simp at hl)
 refine ⟨h,yN l fun e=>?_⟩
 subst e
 rw [wv,wK,Nat.mul_zero,Nat.add_zero] at hv
 have h1:=nz (B:=18446744073709551616) (l:=l) fun x hx=>h x (by simp [hx])
 simp at hl
 rw [hl] at h1
 omega
theorem zeu {w c:Nat}(hw:w<18446744073709551616)(hb:b<18446744073709551616)(hc:c<18446744073709551616):(w*b+c)/18446744073709551616<18446744073709551616:=by
 rw [Nat.div_lt_iff_lt_mul zd]
 have:w*b≤18446744073709551615*18446744073709551615:=Nat.mul_le_mul zo zo
 omega
theorem pH (k:Nat)(h:HF)(n:Nat){s:List UInt8}(hs:AllD s)(hl:s.length<1000000):CF (cal (k+3)) 211 [.string ⟨⟨s⟩⟩] h n fun v h' n' w=>∃L,ResW n h v h' n' w L∧wv L=dval s∧ym n v:=by
 refine zr (fn:=Tryz.f211) R4 ?_
 refine zN ?_
 repeat refine zR ?_
 refine zN ?_
 repeat refine zR ?_
 refine zN ?_
 refine zV (α:=List UInt8×List UInt8×Value×List Nat) (fun z=>[(0,.string ⟨⟨z.2.1⟩⟩),(3,z.2.2.1)])
  (fun z h' n' w=>w=[]∧n≤n'∧Ext n h h'∧s=z.1++z.2.1∧Gro h' n n' 170 1 z.2.2.1 z.2.2.2.length (u64s z.2.2.2)∧NW z.2.2.2∧wv z.2.2.2=dval z.1) (fun z=>z.2.1.length)
  ([],s,.slice none 0 0,[]) ⟨rfl,rfl,trivial⟩ ⟨rfl,Nat.le_refl _,Ext.refl _ _,rfl,.nil,NW.nil,rfl⟩ (by show s.length<LL;unfold LL;omega) ?_
 rintro ⟨done,rest,v3,D⟩ t h1 n1 _ ⟨rfl,hn1,hx1,hsr,hgD,hND,hDv⟩
 simp only at hsr hgD hND hDv
 have hsl:done.length+rest.length<1000000:=by rw [hsr,List.length_append] at hl;exact hl
 have hda:AllD done:=fun b hb=>hs b (by rw [hsr];simp [hb])
 have hra:AllD rest:=fun b hb=>hs b (by rw [hsr];simp [hb])
 have hDl:D.length≤done.length:=hND.len_pow (by rw [hDv];exact uV hda)
 obtain ⟨a3,rfl,_⟩:=hgD.shape
 refine zN ?_
 by_cases hr0:rest=[]
 ·subst hr0
  repeat refine zR ?_
  refine zN ?_
  rw [za rfl]
  refine zN ?_
  repeat refine zR ?_
  refine zN ?_
  rw [List.append_nil] at hsr
  exact retH _ ⟨rfl,(zi rfl),rfl⟩ ⟨D,⟨rfl,hn1,hx1,hgD.sl,hND⟩,by rw [hDv,hsr],hgD.fresh⟩
 have hrl:0<rest.length:=List.length_pos_iff.2 hr0
 obtain ⟨sz,hsz⟩:∃sz,sz=(rest.length-1)%19+1:=⟨_,rfl⟩
 have hsz1:1≤sz∧sz≤19∧sz≤rest.length:=zo
 have hCl:(rest.take sz).length=sz:=by rw [List.length_take];omega
 have hCa:AllD (rest.take sz):=fun b hb=>hra b (List.mem_of_mem_take hb)
 refine zM ?_
 refine st_I (ik:=.i64) (a:=(rest.length:Int)) R5 ?_
 repeat refine zR ?_
 refine zN ?_
 rw [zc rfl]
 refine zN ?_
 refine zM ?_
 refine st_I (ik:=.i64) (a:=(rest.length:Int)) R5 ?_
 refine tz (a:=(rest.length:Int)) (b:=1) R6 zo ?_
 refine zgh (a:=(rest.length:Int)-1) (b:=19) rfl rfl rfl rfl rfl rfl zd ?_
 rw [show ((rest.length:Int)-1).tmod 19=(((rest.length-1)%19:Nat):Int) from by rw [show (rest.length:Int)-1=((rest.length-1:Nat):Int) from zo];rfl]
 refine uG (a:=(((rest.length-1)%19:Nat):Int)) (b:=1) R6 zo ?_
 rw [show (((rest.length-1)%19:Nat):Int)+1=(sz:Int) from zo]
 repeat refine zR ?_
 refine zN ?_
 repeat refine zR ?_
 refine zN ?_
 refine zM ?_
 refine zM ?_
 refine tb (s:=rest) (j:=sz) R8 zo ?_
 refine zaj (s:=rest.take sz) rfl rfl rfl rfl rfl rfl ?_
 generalize hC:rest.take sz=C at hCl hCa ⊢
 generalize hh2:upd h1 (3*n1+1) _=h2
 have hrow2:∃el,h2 (3*n1+1)=some (.row (C.map fun b=>Value.int .u8 b.toNat) el):=⟨_,by rw [←hh2,ze]⟩
 obtain ⟨el,hrow2⟩:=hrow2
 have hx2:Ext n1 h1 h2:=by rw [←hh2];exact Ext.upd zo
 clear hh2
 have hgD2:=hgD.ext hx2 (Nat.le_succ n1)
 have hSC:Sl h2 (n1+1) 1 (.slice (some ⟨3*n1+1,0,none⟩) C.length C.length) (C.map fun b=>Value.int .u8 (b.toNat:Int)):=.at_ zo hrow2 rfl (Nat.le_refl _) (by simp) (by rw [List.drop_zero,List.take_of_length_le (by simp)])
 refine st_I (ik:=.i64) (a:=(C.length:Int)) R5 ?_
 repeat refine zR ?_
 refine zN ?_
 refine zV (α:=Nat) (fun i=>[(0,.string ⟨⟨rest⟩⟩),(3,.slice a3 D.length D.length),(4,.int .i64 (sz:Int)),(5,.int .u64 ((dval (C.take i):Nat):Int)),(6,.int .u64 ((10^i:Nat):Int)),(23,.slice (some ⟨3*n1+1,0,none⟩) C.length C.length),(24,.int .i64 (C.length:Int)),(25,.int .i64 (i:Int))]) (fun i h' n' w=>h2=h'∧n'=n1+1∧w=[]∧i≤C.length) (fun i=>C.length-i) 0 ⟨rfl,rfl,rfl,rfl,rfl,rfl,rfl,rfl,trivial⟩ ⟨rfl,rfl,rfl,Nat.zero_le _⟩ (by show C.length-0<LL;unfold LL;omega) ?_
 rintro i t _ _ _ ⟨rfl,rfl,rfl,hi⟩
 refine zN ?_
 by_cases hiC:i=C.length
 case neg=>
  obtain ⟨b,hb⟩:∃b,C[i]?=some b:=⟨C[i]'zo,List.getElem?_eq_getElem zo⟩
  have hbd:=hCa b (List.mem_of_getElem? hb)
  have hlt:dval (C.take i)<10^i:=by
   have:=uV (s:=C.take i) fun b hb=>hCa b (List.mem_of_mem_take hb)
   rw [List.length_take,Nat.min_eq_left zo] at this
   exact this
  have hp:=jK (i:=i+1) zo
  rw [Nat.pow_succ] at hp
  repeat refine zR ?_
  refine zN ?_
  rw [zc rfl]
  refine zN ?_
  refine z6 (f:=fun b:UInt8=>Value.int .u8 (b.toNat:Int)) (j:=i) R7 hSC R2 hb (fun _=>rfl) R4 fun _=>?_
  repeat refine zR ?_
  refine zN ?_
  refine zM ?_
  refine yK (a:=10) (b:=dval (C.take i)) R6 zo ?_
  refine zM ?_
  refine nZ (a:=b.toNat) (b:=48) R6 zo ?_
  refine yQ (c:=b.toNat-48) R7 zo ?_
  refine yA (a:=10*dval (C.take i)) (b:=b.toNat-48) R6 zo ?_
  repeat refine zR ?_
  refine zN ?_
  refine zM ?_
  refine yK (a:=10^i) (b:=10) R6 zo ?_
  repeat refine zR ?_
  refine zN ?_
  repeat refine zR ?_
  refine zN ?_
  refine goOn (i+1) (by show C.length-(i+1)<C.length-i;omega) ⟨rfl,rfl,rfl,?_,?_,rfl,rfl,rfl,trivial⟩ ⟨rfl,rfl,rfl,by show i+1≤_;omega⟩
  ·show Value.int .u64 _=Value.int .u64 _
   rw [pS hb,sN]
  show Value.int .u64 _=Value.int .u64 _
  rw [Nat.pow_succ]
 subst hiC
 repeat refine zR ?_
 refine zN ?_
 rw [za rfl]
 refine zN ?_
 rw [List.take_length]
 refine zM ?_
 refine zM ?_
 refine vm (s:=rest) (j:=sz) R8 zo ?_
 repeat refine zR ?_
 refine zN ?_
 repeat refine zR ?_
 refine zN ?_
 repeat refine zR ?_
 refine zN ?_
 have hCv:dval C<10^C.length:=uV hCa
 have hp:=jK (i:=C.length) zo
 refine zV (α:=List Nat×Nat) (fun z=>[(0,.string ⟨⟨rest.drop sz⟩⟩),(3,.slice a3 D.length D.length),(6,.int .u64 ((10^C.length:Nat):Int)),(9,.int .u64 (z.2:Int)),(42,.slice a3 D.length D.length),(43,.int .i64 (D.length:Int)),(44,.int .i64 (z.1.length:Int))])
  (fun z h' n' w=>n'=n1+1∧w=[]∧Ext n h h'∧Gro h' n (n1+1) 170 1 (.slice a3 D.length D.length) D.length (u64s (z.1++D.drop z.1.length))∧z.1.length≤D.length∧WdD z.1∧z.2<18446744073709551616∧wv z.1+z.2*18446744073709551616^z.1.length=wv (D.take z.1.length)*10^C.length+dval C) (fun z=>D.length-z.1.length)
  ([],dval C) ⟨rfl,rfl,rfl,rfl,rfl,rfl,rfl,trivial⟩ ⟨rfl,rfl,hx1.trans hx2 hn1,hgD2,Nat.zero_le _,WdD.nil,by show dval C<_;omega,by simp [wv,dv]⟩ (by show D.length-0<LL;unfold LL;omega) ?_
 rintro ⟨E,c⟩ t h3 _ _ ⟨rfl,rfl,hx3,hg3,hEl,hEd,hc,hV⟩
 simp only at hg3 hEl hEd hc hV
 refine zN ?_
 by_cases hED:E.length=D.length
 case neg=>
  obtain ⟨x,hx⟩:∃x,D[E.length]?=some x:=⟨D[E.length]'zo,List.getElem?_eq_getElem zo⟩
  have hxl:=hND.1.get hx
  obtain ⟨b,hab,hgb,hb1,hb2,hrow,hlen⟩:=hg3.inv2 zo
  injection hab with hab _ _
  subst hab
  have hD3:Sl h3 (n1+1) 1 (.slice (some ⟨b,0,none⟩) D.length D.length) (u64s (E++D.drop E.length)):=hg3.sl
  have hxe:(E++D.drop E.length)[E.length]?=some x:=by rw [List.getElem?_append_right (Nat.le_refl _),Nat.sub_self,List.getElem?_drop,Nat.add_zero,hx]
  repeat refine zR ?_
  refine zN ?_
  rw [zc rfl]
  refine zN ?_
  repeat refine zR ?_
  refine z6 (f:=fun d:Nat=>Value.int .u64 (d:Int)) (j:=E.length) R7 hD3 R2 hxe (fun _=>rfl) R4 fun _=>?_
  repeat refine zR ?_
  refine zN ?_
  repeat refine zR ?_
  refine yg _ R5 (uQ k h3 (n1+1) hxl (show 10^C.length<18446744073709551616 by omega) hc) ?_
  rintro _ rfl
  repeat refine zR ?_
  refine y5 (j:=E.length) (v:=.int .u64 (((x*10^C.length+c)%18446744073709551616:Nat):Int)) R8 rfl (by rw [hlen];omega) hrow (by show 3*n≤b;omega) (fun _=>rfl) R3 (fun _=>rfl) rfl fun _=>?_
  rw [yo,te _ hx]
  repeat refine zR ?_
  refine zN ?_
  repeat refine zR ?_
  refine zN ?_
  have hmod:(x*10^C.length+c)%18446744073709551616<18446744073709551616:=Nat.mod_lt _ zd
  refine goOn (E++[(x*10^C.length+c)%18446744073709551616],(x*10^C.length+c)/18446744073709551616) (by show D.length-(E++[_]).length<D.length-E.length;simp;omega) ⟨rfl,rfl,rfl,rfl,rfl,rfl,by show Value.int .i64 _=Value.int .i64 _;simp,trivial⟩ ⟨rfl,rfl,fun b' hb'=>(zh zo).trans (hx3 b' hb'),.at_ hgb hb1 hb2 (ze _ _ _) ?_ (uP _),by show (E++[_]).length≤_;simp;omega,WdD.snoc hEd hmod,zeu hxl zo hc,?_⟩
  ·rw [zP,List.length_append,List.length_drop];simp;omega
  show wv (E++[_])+_*18446744073709551616^(E++[_]).length=wv (D.take (E++[_]).length)*_+_
  simp only [List.length_append,List.length_singleton]
  have hts:wv (D.take (E.length+1))=wv (D.take E.length)+18446744073709551616^E.length*x:=zQ hx
  rw [hts,Nat.pow_succ]
  have:=rC (B:=18446744073709551616) (P:=18446744073709551616^E.length) (V:=wv E) (V':=wv (E++[(x*10^C.length+c)%18446744073709551616])) (c:=c) (p:=x*10^C.length) (d:=(x*10^C.length+c)%18446744073709551616) (c':=(x*10^C.length+c)/18446744073709551616) (by rw [wv,wK,Nat.mul_comm];rfl) (by rw [Nat.add_comm c];exact Nat.div_add_mod _ _)
  rw [this,hV]
  generalize 18446744073709551616^E.length=P
  generalize 10^C.length=T
  generalize wv (D.take E.length)=W
  rw [Nat.add_mul,Nat.mul_comm P x,Nat.mul_right_comm]
  omega
 rw [hED,List.drop_length,List.append_nil] at hg3
 rw [hED,List.take_length] at hV
 repeat refine zR ?_
 refine zN ?_
 rw [za rfl]
 refine zN ?_
 have hnew:s=(done++C)++rest.drop sz:=by rw [hsr,←hC,List.append_assoc,List.take_append_drop]
 have hdv:dval (done++C)=wv D*10^C.length+dval C:=by rw [uz,hDv]
 have hmeas:(rest.drop sz).length<rest.length:=by rw [List.length_drop];omega
 by_cases hc0:c=0
 ·subst hc0
  repeat refine zR ?_
  refine zN ?_
  rw [za rfl]
  refine zN ?_
  rw [Nat.zero_mul,Nat.add_zero] at hV
  refine goOn (done++C,rest.drop sz,.slice a3 D.length D.length,E) hmeas ⟨rfl,rfl,trivial⟩ ⟨rfl,by show n≤n1+1;omega,hx3,hnew,by show Gro _ _ _ _ _ _ E.length _;rw [hED];exact hg3,?_,by show wv E=dval (done++C);rw [hV,hdv]⟩
  show NW E
  cases hDn:D with
  |nil=>
   rw [hDn] at hED
   rw [List.length_eq_zero_iff.1 hED]
   exact NW.nil
  |cons y D'=>
   obtain ⟨l,d,hld⟩:=Go.Proofs.YtlmbghgklnmlkaaGreatDoor.snoc (l:=D) (by rw [hDn];simp)
   have hlow:=(show NW (l++[d]) by rw [←hld];exact hND).low
   rw [←hld] at hlow
   refine NW.of_low (i:=l.length) hEd (by rw [hED,hld];simp) ?_
   rw [hV]
   have:wv D*1≤wv D*10^C.length:=Nat.mul_le_mul_left _ (Nat.pow_pos zd)
   omega
 repeat refine zR ?_
 refine zN ?_
 rw [zc rfl]
 refine zN ?_
 repeat refine zR ?_
 refine vO (cs:=[.int .u64 (c:Int)]) R5 ?_
 refine pY (m:=1) R8 zd (hg3.ext (Ext.upd zo) zs) (wy (ze _ _ _) R2) (Nat.le_refl _) zo rfl rfl (by show n≤n∧_;omega) ?_
 intro v' h5 hg5 hx5 _
 obtain ⟨a',rfl,_⟩:=hg5.shape
 repeat refine zR ?_
 refine zN ?_
 refine goOn (done++C,rest.drop sz,.slice a' (D.length+1) (D.length+1),E++[c]) hmeas ⟨rfl,rfl,trivial⟩ ⟨rfl,by show n≤n1+1+1+1;omega,fun b hb=>(hx5 b hb).trans ((zh zo).trans (hx3 b hb)),hnew,?_,⟨WdD.snoc hEd hc,yN E hc0⟩,?_⟩
 ·show Gro _ _ _ _ _ _ (E++[c]).length (u64s (E++[c]))
  rw [wU,List.length_append,hED]
  exact hg5
 show wv (E++[c])=dval (done++C)
 rw [wv,wK,hdv,←hV,hED,Nat.mul_comm]
 rfl
end
theorem zX (n:Nat):gro (3*n+2)=false:=by
 unfold gro
 rw [show (3*n+2)%3=2 from zo]
 rfl
section
variable {E:Env}{h:HF}{n:Nat}{sT e:TypeId}{size bytes:Nat}{z x:Value}
theorem pw {m:Nat}(hu:E.und sT=some (.slice e))(hi:E.inf e=some (size,bytes,z))(hz:(zl z).length=size)(h1:1≤size∧1≤bytes)(hx:argS h size x m new)(hb:m*bytes≤1099511627776)(hg:gro b=false)(hm:m≠0):
  yE E h n sT (.slice (some ⟨b,0,none⟩) 0 0) x=some (.val (.slice (some ⟨3*n+1,0,none⟩) m m) (upd h (3*n+1) (some (.row new e))) (n+1) []):=by
 obtain ⟨hl',hc⟩:=hx
 have c1:Nat.ble (m*bytes) 1099511627776=true:=Nat.ble_eq_true_of_le hb
 have c2:Nat.beq (zl z).length size=true:=by rw [hz];exact Nat.beq_refl _
 have c3:Nat.ble 1 size=true:=Nat.ble_eq_true_of_le h1.1
 have c4:Nat.ble 1 bytes=true:=Nat.ble_eq_true_of_le h1.2
 have c5:Nat.ble m 0=false:=by
  cases hb:Nat.ble m 0 with
  |false=>rfl
  |true=>have:=Nat.le_of_ble_eq_true hb;omega
 have c6:yh h size 0 (.slice (some ⟨b,0,none⟩) 0 0)=some []:=by simp [yh]
 simp only [yE,hu,hi,hl',hc,Nat.zero_add,c1,c2,c3,c4,c5,c6,Bool.and_self,kH,hg,List.nil_append]
theorem pt {a:Option Addr}{L:Nat}(hu:E.und sT=some (.slice e))(hi:E.inf e=some (size,bytes,z))(hz:(zl z).length=size)(h1:1≤size∧1≤bytes)(hx:argS h size x 0 [])(hb:L*bytes≤1099511627776):
  yE E h n sT (.slice a L L) x=some (.val (.slice a L L) h n []):=by
 obtain ⟨hl',hc⟩:=hx
 have c1:Nat.ble (L*bytes) 1099511627776=true:=Nat.ble_eq_true_of_le hb
 have c2:Nat.beq (zl z).length size=true:=by rw [hz];exact Nat.beq_refl _
 have c3:Nat.ble 1 size=true:=Nat.ble_eq_true_of_le h1.1
 have c4:Nat.ble 1 bytes=true:=Nat.ble_eq_true_of_le h1.2
 have c5:Nat.ble L L=true:=Nat.ble_eq_true_of_le (Nat.le_refl _)
 simp only [yE,hu,hi,hl',hc,Nat.add_zero,c1,c2,c3,c4,c5,Bool.and_self,vv]
inductive Gr0 (h:HF) (lo n:Nat) (e:TypeId) (sz:Nat):Value→Nat→List Value→Prop
 |gro {v:Value} {len:Nat} {c:List Value} (g:Gro h lo n e sz v len c):Gr0 h lo n e sz v len c
 |emp {m:Nat} (hlo:lo≤m) (hm:m<n):Gr0 h lo n e sz (.slice (some ⟨3*m+2,0,none⟩) 0 0) 0 []
theorem Gr0.ext {h:HF}{lo n:Nat}{e:TypeId}(g:Gr0 h lo n e sz v len c)(he:Ext n h h')(hn:n≤n'):Gr0 h' lo n' e sz v len c:=by
 cases g with
 |gro g=>exact .gro (g.ext he hn)
 |emp hlo hm=>exact .emp hlo zo
theorem Gr0.sl {h:HF}{lo n:Nat}{e:TypeId}(g:Gr0 h lo n e sz v len c):Sl h n sz v c:=by
 cases g with
 |gro g=>exact g.sl
 |emp hlo hm=>exact .nil (.inr ⟨_,_,_,rfl,zo⟩)
theorem Gr0.shape {h:HF}{lo n:Nat}{e:TypeId}(g:Gr0 h lo n e sz v len c):∃a,v=.slice a len len∧c.length=len*sz:=by
 cases g with
 |gro g=>exact g.shape
 |emp hlo hm=>exact ⟨_,rfl,by simp⟩
theorem Gr0.below {h:HF}{lo n:Nat}{e:TypeId}(g:Gr0 h lo n e sz v len c):Below n v:=g.sl.below
theorem Gr0.fresh {h:HF}{lo n:Nat}{e:TypeId}(g:Gr0 h lo n e sz v len c):ym lo v:=by
 cases g with
 |gro g=>exact g.fresh
 |emp hlo hm=>show 3*lo≤3*_+2;omega
theorem Gr0.lo {h:HF}{lo n:Nat}{e:TypeId}(g:Gr0 h lo n e sz v len c)(hl:lo'≤lo):Gr0 h lo' n e sz v len c:=by
 cases g with
 |gro g=>
  cases g with
  |nil=>exact .gro .nil
  |at_ hg hlo hb hr hl ho=>exact .gro (.at_ hg zo hb hr hl ho)
 |emp hlo hm=>exact .emp zo hm
def Apt (u v:Value):Prop:=∀a l c a' l' c',u=.slice (some a) l c→v=.slice (some a') l' c'→a.block≠a'.block
theorem Apt.of {m:Nat}{u:Value}(hu:Below m u)(hv:ym m v):Apt u v:=fun a l c a' l' c' e e'=>by
 subst e e'
 have h1:a.block<3*m:=hu
 have h2:3*m≤a'.block:=hv
 omega
theorem Apt.symm {u:Value}(h:Apt u v):Apt v u:=fun a l c a' l' c' e e' q=>h a' l' c' a l c e' e q.symm
theorem Gr0.keep {h:HF}{lo n:Nat}{e:TypeId}{u:Value}(g:Gr0 h lo n e sz u len c)(hk:Keep v n h h')(ha:Apt u v)(hn:n≤n'):Gr0 h' lo n' e sz u len c:=by
 cases g with
 |emp hlo hm=>exact .emp hlo zo
 |gro g=>
  cases g with
  |nil=>exact .gro .nil
  |at_ hg hlo hb hr hl ho=>exact .gro (.at_ hg hlo zo (by rw [hk _ hb fun o l c e=>ha _ _ _ _ _ _ rfl e rfl];exact hr) hl ho)
theorem fM {lo m:Nat}(hu:E.und sT=some (.slice e))(hi:E.inf e=some (size,bytes,z))(hz:(zl z).length=size)(h1:1≤size∧1≤bytes)(hg:Gr0 h lo n e size v len c)(hx:argS h size x m new)(hb:(len+m)*bytes≤1099511627776)(hl:new.length=m*size)(ho:ones new=true)(hlo:lo≤n):
  ∃v' h' n' W,yE E h n sT v x=some (.val v' h' n' W)∧n≤n'∧Gr0 h' lo n' e size v' (len+m) (c++new)∧Ext lo h h'∧Keep v n h h'∧(∀b∈W,3*lo≤b∧gro b=true)∧(v'=v∨ym n v'):=by
 by_cases hm:m=0
 ·subst hm
  have hn0:new=[]:=List.length_eq_zero_iff.1 (by rw [hl];simp)
  subst hn0
  obtain ⟨a,rfl,_⟩:=hg.shape
  exact ⟨_,_,_,_,pt hu hi hz h1 hx hb,Nat.le_refl _,by rw [List.append_nil];exact hg,Ext.refl _ _,fun _ _ _=>rfl,fun b hb=>absurd hb List.not_mem_nil,.inl rfl⟩
 cases hg with
 |emp hlo2 hm2=>
  rw [Nat.zero_add] at hb ⊢
  refine ⟨_,_,_,_,pw hu hi hz h1 hx hb (zX _) hm,Nat.le_succ n,.gro (.at_ (uy n) zo zo (ze _ _ _) hl ho),Ext.upd zo,fun b hb _=>zh zo,fun b hb=>absurd hb List.not_mem_nil,.inr (by show 3*n≤3*n+1;omega)⟩
 |gro hg=>
  cases hg with
  |nil=>
   refine ⟨_,_,_,_,append_nil hu hi hz h1.1 h1.2 hx zo (by rw [Nat.zero_add] at hb;exact hb),Nat.le_succ n,?_,Ext.upd zo,fun b hb _=>zh zo,fun b hb=>absurd hb List.not_mem_nil,.inr (by show 3*n≤3*n+1;omega)⟩
   rw [Nat.zero_add]
   exact .gro (.at_ (uy n) zo zo (ze _ _ _) hl ho)
  |at_ hg hlo2 hb2 hr hl2 ho2=>
   refine ⟨_,_,_,_,tr hu hi hz h1.1 h1.2 hx zo hb hg hr hl2 (xK ho2 ho) hl,Nat.le_succ n,.gro (.at_ (uy n) zo zo (ze _ _ _) (by rw [List.length_append,hl2,hl,Nat.add_mul]) (xK ho2 ho)),fun b hb=>?_,fun b hb hne=>?_,fun b hb=>?_,.inr (by show 3*n≤3*n+1;omega)⟩
   ·rw [zh zo,zh zo]
   ·rw [zh zo,zh (fun e=>hne 0 len len (by rw [e]))]
   have hb:=List.mem_singleton.1 hb
   rw [hb]
   exact ⟨hlo2,hg⟩
end
theorem ks {m:Nat}:∀{l:List (Nat×Nat)},(∀x∈l,x.2≠b)→yk m [b] l=true:=by
 intro l
 induction l with
 |nil=>intro _;rfl
 |cons x l ih=>
  intro h
  obtain ⟨i,c⟩:=x
  have hm:memN c [b]=false:=by
   unfold memN
   cases he:Nat.beq c b with
   |false=>rfl
   |true=>exact absurd (Nat.eq_of_beq_eq_true he) (h (i,c) (by simp))
  unfold yk
  rw [hm,Bool.not_false,Bool.or_true]
  exact ih fun y hy=>h y (by simp [hy])
section
variable {X:CtxF}{ops r:List Oper}{t:TF}{h:HF}{n:Nat}{w:List Nat}{Q:SV→Prop}{o:Oper}{d:Tmp}
theorem eF {sT e:TypeId}{s x:Operand}{lo size bytes m:Nat}{z:Value}(hw:zg ops t o=true∧o.dst=some d∧zm X.nt (some d)=true∧o.op=.call {callee:=.builtin .append,args:=#[s,x],argTypes:=#[sT,xT]}∧(match X.E.und xT with|some (.int _)=>false|none=>false|_=>true)=true∧X.E.und sT=some (.slice e)∧X.E.inf e=some (size,bytes,z)∧(zl z).length=size)(h1:1≤size∧1≤bytes)(hg:Gr0 h lo n e size (evF t s) len c)(hx:argS h size (evF t x) m new)(hb:(len+m)*bytes≤1099511627776)(hl:new.length=m*size)(hon:ones new=true)(hlo:X.n0≤lo∧lo≤n)
  (k:∀v' h' n',n≤n'→Gr0 h' lo n' e size v' (len+m) (c++new)→Ext lo h h'→Keep (evF t s) n h h'→(v'=evF t s∨ym n v')→EO X ops r ⟨upd t d v',h',n',w⟩ Q):EO X ops (o::r) ⟨t,h,n,w⟩ Q:=by
 obtain ⟨hw,hd,hn,ho,hxT,hu,hi,hz⟩:=hw
 obtain ⟨v',h',n',W,h2,h3,h4,h5,h6,h7,h8⟩:=fM hu hi hz h1 hg hx hb hl hon hlo.2
 refine xq ⟨hw,hd,hn,ho,hxT⟩ h2 ?_
 rw [yS fun b hb=>by have:=(h7 b hb).1;omega]
 exact k v' h' n' h3 h4 h5 h6 h8
end
section
variable {X:CtxF}{ops r:List Oper}{ms:List Nat}{i m:Nat}{t:TF}{h:HF}{n:Nat}{w:List Nat}{al ld:List (Nat×Nat)}{ef:List (Nat×HF×List Nat)}{Q:SV→Prop}{o:Oper}{d:Tmp}
end
section
variable {cap:Nat}
theorem Sl.zero {a:Option Addr}{c:Nat}(s:Sl h n 1 (.slice a l c) (u64s A))(ha:a=none):A=[]:=by
 have h1:=s.lenW
 by_cases h0:l=0
 ·exact List.length_eq_zero_iff.1 zo
 obtain ⟨b,off,x,cs,e,_⟩:=s.inv h0
 rw [ha] at e
 cases e
theorem vY (k:Nat){a:Option Addr}(hs:Sl h n 1 (.slice a len cap) (u64s L))(hl:L.length<1000000000):CF (cal (k+1)) 176 [.slice a len cap] h n fun v h' n' w=>w=[]∧n≤n'∧Ext n h h'∧Sl h' n' 1 v (u64s L)∧(L≠[]→Gro h' n n' 170 1 v L.length (u64s L)):=by
 refine zr (fn:=Tryz.f176) R4 ?_
 have hlen:=hs.lenW
 subst hlen
 refine zN ?_
 repeat refine zR ?_
 refine zN ?_
 repeat refine zR ?_
 cases a with
 |none=>
  have hL:=hs.zero rfl
  subst hL
  refine zN ?_
  rw [zc rfl]
  refine zN ?_
  repeat refine zR ?_
  refine zN ?_
  exact retH _ ⟨rfl,(zi rfl),rfl⟩ ⟨rfl,Nat.le_refl _,Ext.refl _ _,.nil (.inl rfl),fun h=>absurd rfl h⟩
 |some ad=>
  refine zN ?_
  rw [za rfl]
  refine zN ?_
  refine vO (cs:=[]) R5 ?_
  repeat refine zR ?_
  have hs2:=hs.ext (Ext.upd (h:=h) (b:=3*n+2) (x:=some (.row [] 170)) (show 3*n≤3*n+2 by omega)) (Nat.le_succ n)
  by_cases hL:L=[]
  ·subst hL
   refine xq R5 (pt (L:=0) rfl rfl rfl zd (vI hs2) zd) ?_
   repeat refine zR ?_
   refine zN ?_
   exact retH _ ⟨rfl,(zi rfl),rfl⟩ ⟨rfl,Nat.le_succ n,Ext.upd zo,.nil (.inr ⟨_,_,_,rfl,by show 3*n+2<3*(n+1);omega⟩),fun h=>absurd rfl h⟩
  have hL0:L.length≠0:=fun e=>hL (List.length_eq_zero_iff.1 e)
  refine xq R5 (pw rfl rfl rfl zd (vI hs2) zo (zX n) hL0) ?_
  repeat refine zR ?_
  refine zN ?_
  have hg:Gro (upd (upd h (3*n+2) (some (.row [] 170))) (3*(n+1)+1) (some (.row (u64s L) 170))) n (n+1+1) 170 1 (.slice (some ⟨3*(n+1)+1,0,none⟩) L.length L.length) L.length (u64s L):=.at_ (uy (n+1)) zo zo (ze _ _ _) (by rw [zP,Nat.mul_one]) (uP L)
  exact retH _ ⟨rfl,(zi rfl),rfl⟩ ⟨rfl,by show n≤n+1+1;omega,(Ext.upd zo).trans (Ext.upd zo) (Nat.le_succ n),hg.sl,fun _=>hg⟩
theorem pG (k:Nat)(h:HF)(n:Nat){s:List UInt8}(hs:AllD s)(hl:s.length≤570):CF (cal (k+4)) 192 [.string ⟨⟨s⟩⟩,.slice none 0 0] h n fun v h' n' w=>∃L,ResW n h v h' n' w L∧wv L=dval s∧ym n v:=by
 refine zr (fn:=Tryz.f192) R4 ?_
 refine zN ?_
 repeat refine zR ?_
 refine zN ?_
 repeat refine zR ?_
 refine zN ?_
 refine zV (α:=Unit) (fun _=>[(0,.string ⟨⟨s⟩⟩),(5,.int .i64 (-1))]) (fun _ h' n' w=>h=h'∧n=n'∧w=[]) (fun _=>0) () ⟨rfl,rfl,trivial⟩ ⟨rfl,rfl,rfl⟩ (by show 0<LL;decide) ?_
 rintro _ t _ _ _ ⟨rfl,rfl,rfl⟩
 refine zN ?_
 repeat refine zR ?_
 refine zN ?_
 rw [za rfl]
 refine zN ?_
 repeat refine zR ?_
 refine zN ?_
 rw [zc rfl]
 refine zN ?_
 refine zM ?_
 refine zu _ R5 (pH k h n hs zo) ?_
 rintro v h1 n1 _ ⟨L,⟨rfl,hn1,hx1,hs1,hN⟩,hv,hf⟩
 obtain ⟨a,l,c,rfl,_⟩:=hs1.len
 repeat refine zR ?_
 refine zN ?_
 exact retH _ ⟨rfl,(zi rfl),rfl⟩ ⟨L,⟨rfl,hn1,hx1,hs1,hN⟩,hv,hf⟩
theorem pF (k:Nat)(h:HF)(n:Nat){s:List UInt8}(hs:AllD s)(hl:s.length≤570):CF (cal (k+5)) 165 [.string ⟨⟨s⟩⟩] h n fun v h' n' w=>∃L,ResW n h v h' n' w L∧wv L=dval s∧ym n v:=by
 refine zr (fn:=Tryz.f165) R4 ?_
 refine zN ?_
 repeat refine zR ?_
 refine zN ?_
 repeat refine zR ?_
 refine zN ?_
 refine zM ?_
 refine st_I (ik:=.i64) (a:=(s.length:Int)) R5 ?_
 repeat refine zR ?_
 refine zN ?_
 rw [za rfl]
 refine zN ?_
 refine zM ?_
 refine zM ?_
 refine zu _ R5 (pG k h n hs hl) ?_
 rintro v h1 n1 _ ⟨L,⟨rfl,hn1,hx1,hs1,hN⟩,hv,hf⟩
 obtain ⟨a,l,c,rfl,_⟩:=hs1.len
 repeat refine zR ?_
 refine zN ?_
 exact retH _ ⟨rfl,(zi rfl),rfl⟩ ⟨L,⟨rfl,hn1,hx1,hs1,hN⟩,hv,hf⟩
def NatR (n:Nat)(h:HF)(v:Value)(h':HF)(n':Nat)(w:List Nat)(x:Nat):Prop:=∃a l c L,v=.agg #[.bool false,.slice a l c]∧ResW n h (.slice a l c) h' n' w L∧wv L=x
theorem dz (k:Nat)(h:HF)(n:Nat){s:List UInt8}(hs:AllD s)(hl:s.length≤570):CF (cal (k+6)) 124 [.string ⟨⟨s⟩⟩] h n fun v h' n' w=>NatR n h v h' n' w (dval s):=by
 refine zr (fn:=Tryz.f124) R4 ?_
 refine zN ?_
 refine yp R5 ?_
 refine zN ?_
 refine zM ?_
 refine zu _ R5 (pF k _ _ hs hl) ?_
 rintro v h1 n1 _ ⟨L,⟨rfl,hn1,hx1,hs1,hN⟩,hv,hf⟩
 obtain ⟨a,l,c,rfl,_⟩:=hs1.len
 have hb:=(hx1 (3*n+2) zo).trans (ze _ _ _)
 refine zF (v:=.agg #[.bool false,.slice a l c]) R4 rfl ?_
 refine zI [.bool false,.slice a l c] R7 rfl hb rfl (by show 3*n≤3*n+2;omega) ?_
 refine zN ?_
 exact wp R5 (ze _ _ _) rfl ⟨_,_,_,L,rfl,⟨rfl,by show n≤n1;omega,fun b hb=>(zh zo).trans ((hx1 b zo).trans (zh zo)),hs1.off (hf.off zo),hN⟩,hv⟩
theorem qw (c:Nat):wv [c]=c:=by simp [wv,dv]
theorem zbl {x c:Nat}:Nat.gcd c (x%c)=Nat.gcd x c:=by rw [Nat.gcd_comm,←Nat.gcd_rec,Nat.gcd_comm]
theorem zbi (k:Nat){neg:Bool}{a:Option Addr}{c:Nat}(hs:Sl h n 1 (.slice a l c) (u64s L))(hN:NW L):VF (cal (k+1)) 95 [.agg #[.bool neg,.slice a l c]] h n fun v=>v=.bool (!neg&&decide (wv L=1)):=by
 refine zA (fn:=Tryz.f95) R4 ?_
 have hlen:=hs.lenW
 subst hlen
 refine zN ?_
 refine wW (cs:=[.bool neg,.slice a L.length c]) R5 ?_
 generalize hh:upd h (3*n+2) _=h1
 have hx1:Ext n h h1:=by rw [←hh];exact Ext.upd zo
 have r1:∃e,h1 (3*n+2)=some (.row [.bool neg,.slice a L.length c] e):=⟨_,by rw [←hh,ze]⟩
 obtain ⟨e1,r1⟩:=r1
 clear hh
 have hs1:=hs.ext hx1 (Nat.le_succ n)
 repeat refine zR ?_
 refine zN ?_
 repeat refine zR ?_
 refine zC R6 r1 (v:=.bool neg) R2 ?_
 cases neg with
 |true=>
  repeat refine zR ?_
  refine zN ?_
  exact retF _ rfl (zi rfl) R2 rfl
 |false=>
 repeat refine zR ?_
 refine zC R6 r1 (v:=.slice a L.length c) R2 ?_
 by_cases h1:L.length=1
 ·obtain ⟨d,rfl⟩:=List.length_eq_one_iff.1 h1
  rw [show [d].length=1 from rfl] at r1 hs1 ⊢
  repeat refine zR ?_
  refine zC R6 r1 (v:=.slice a 1 c) R2 ?_
  refine z6 (f:=fun d:Nat=>Value.int .u64 (d:Int)) (l:=[d]) (j:=0) R7 hs1 ⟨rfl,(by simp)⟩ rfl (fun _=>rfl) R4 fun _=>?_
  rw [qw]
  by_cases hd:d=1
  ·repeat refine zR ?_
   refine zN ?_
   exact retF _ rfl (zi rfl) R2 (by rw [decide_eq_true hd];rfl)
  repeat refine zR ?_
  refine zN ?_
  exact retF _ rfl (zi rfl) R2 (by rw [decide_eq_false hd];rfl)
 have hw:wv L≠1:=fun e=>h1 (by rw [hN.inj (NW.one (d:=1) zd zd) (by rw [e,qw])];rfl)
 repeat refine zR ?_
 refine zN ?_
 exact retF _ rfl (zi rfl) R2 (by rw [decide_eq_false hw];rfl)
end
section
variable {lo:Nat}
def ExtT (n bt:Nat)(h h':HF):Prop:=∀b,b<3*n→b≠bt→h' b=h b
theorem ExtT.refl (n bt:Nat)(h:HF):ExtT n bt h h:=fun _ _ _=>rfl
theorem ExtT.trans {n:Nat}{a b c:HF}(h:ExtT n bt a b)(h':ExtT n' bt b c)(hn:n≤n'):ExtT n bt a c:=fun k hk hb=>(h' k zo hb).trans (h k hk hb)
theorem Ext.t {n:Nat}{h:HF}(e:Ext n h h'):ExtT n bt h h':=fun k hk _=>e k hk
theorem ExtT.mono {n:Nat}{h:HF}(e:ExtT n' bt h h')(hn:n≤n'):ExtT n bt h h':=fun k hk hb=>e k zo hb
theorem RatR.old {h:HF}{n m:Nat}{ld:List Nat}{y:Option BF}(r:RatR h n n1 n2 d1 d2 q ln ld)(hf:ym m n2)(hf2:ym m d2)(hb:b<3*m):RatR (upd h b y) n n1 n2 d1 d2 q ln ld:=⟨r.num.old hf hb,r.neg,r.sl.old hf2 hb,r.norm,r.val⟩
theorem Gro.extT {h:HF}{n:Nat}(g:Gro h lo n e sz v len c)(he:ExtT n bt h h')(hbt:bt<3*lo)(hn:n≤n'):Gro h' lo n' e sz v len c:=by
 cases g with
 |nil=>exact .nil
 |at_ hg hlo hb hr hl ho=>exact .at_ hg hlo zo (by rw [he _ hb zo];exact hr) hl ho
theorem Sl.cap {h:HF}{n:Nat}{a:Option Addr}{cap:Nat}(s:Sl h n sz (.slice a len cap) c):len≤cap:=by
 by_cases h0:len=0
 ·omega
 obtain ⟨_,_,_,_,_,_,_,_,h,_⟩:=s.inv h0
 exact h
def strs (l:List (List UInt8)):List Value:=l.map fun s=>Value.string ⟨⟨s⟩⟩
theorem lX (a b:List (List UInt8)):strs (a++b)=strs a++strs b:=by simp [strs]
theorem zah (a:List (List UInt8)):(strs a).length=a.length:=by simp [strs]
theorem rS {m:Nat}:∀{l:List (Nat×Nat)},wi m l=true→yk m W l=true:=by
 intro l
 induction l with
 |nil=>intro _;rfl
 |cons x l ih=>
  intro h
  obtain ⟨i,b⟩:=x
  unfold wi at h
  split at h
  ·rename_i hb
   unfold yk
   rw [hb,Bool.true_or]
   exact ih h
  cases h
section
variable {X:CtxF}{ops r:List Oper}{ms:List Nat}{i m:Nat}{t:TF}{h:HF}{n:Nat}{w:List Nat}{al ld:List (Nat×Nat)}{ef:List (Nat×HF×List Nat)}{Q:SV→Prop}{o:Oper}{d:Tmp}
theorem zhg {s:Operand}{mm:Nat}(hw:zg ops t o=true)(hd:o.dst=some d)(hn:zm X.nt (some d)=true)(ho:o.op=.call {callee:=.builtin .append,args:=#[s,x],argTypes:=#[sT,xT]})(hxT:(match X.E.und xT with|some (.int _)=>false|none=>false|_=>true)=true)
  (hu:X.E.und sT=some (.slice e))(hi:X.E.inf e=some (size,bytes,z))(hz:(zl z).length=size)(h1:1≤size∧1≤bytes)(g1:xR m ef=true)(g2:wi m al=true)(g3:wi m ld=true)(hg:Gro h lo n e size (evF t s) len c)(hx:argS h size (evF t x) mm new)(hm:1≤mm)(hb:(len+mm)*bytes≤1099511627776)(hl:new.length=mm*size)(hon:ones new=true)(hlo:X.n0≤lo∧lo≤n)
  (k:∀v' h' W,Gro h' lo (n+1) e size v' (len+mm) (c++new)→Ext lo h h'→Keep (evF t s) n h h'→ym n v'→ED X ops r ms (i+1) ⟨⟨upd t d v',h',n+1,w⟩,al,ld,(i,h,W)::ef⟩ Q):ED X ops (o::r) (m::ms) i ⟨⟨t,h,n,w⟩,al,ld,ef⟩ Q:=by
 obtain ⟨v',h',W,h2,h3,h4,h6,h5,h7⟩:=oJ hu hi hz h1 hg hx hm hb hl hon hlo.2
 refine bn hw hd hn ho hxT h2 g1 g2 (rS g3) zs ?_
 rw [yS fun b hb=>by have:=h5 b hb;omega]
 exact k v' h' W h3 h4 h6 h7
end
end
section
variable {cap:Nat}
theorem fT {h:HF}{n:Nat}{P:Value→HF→Nat→List Nat→Prop}(hf:GK.orc f args=none∧env.fn f=some fn∧fn.body=some body∧Nat.ble args.length fn.ntmps=true)
  (hx:EC (ctx k n fn.ntmps) body ⟨pO args,h,n,[]⟩ fun e s=>tN e=true∧∃vs,resF env s fn.results.toList=some vs∧P (re vs) s.h s.n s.w∧(s.w=[]→P (re vs) h n [])):CF (cal (k+1)) f args h n P:=by
 obtain ⟨hf,hfn,hb,hle⟩:=hf
 refine nP hf hfn hb hle (tW hx fun e s ⟨h1,vs,h2,h3,h4⟩=>⟨h1,vs,h2,?_⟩)
 unfold endF
 split
 ·rename_i hw;exact h4 hw
 exact h3
section
variable {X:CtxF}{ops r:List Oper}{t:TF}{h:HF}{n:Nat}{w:List Nat}{Q:SV→Prop}{o:Oper}{d:Tmp}
theorem upd_self {x:Option BF}(hb:h b=x):upd h b x=h:=by
 funext j
 by_cases e:j=b
 ·rw [e,ze,hb]
 rw [zh e]
theorem sX {w:List Nat}:addW n0 [] w=w:=rfl
theorem oU {e3:TypeId}{s:Operand}{dLen:Nat}(hw:zg ops t o=true∧o.dst=some d∧zm X.nt (some d)=true∧o.op=.call {callee:=.builtin .copy,args:=#[s,x],argTypes:=#[sT,xT]}∧X.E.und sT=some (.slice e)∧X.E.inf e=some (size,bytes,z)∧evF t s=.slice (some ⟨b,0,none⟩) dLen cap)(hx:argS h size (evF t x) m cs)(hm:m≤dLen)(hb:h b=some (.row c e3))(hl:cs.length≤c.length)(h1:ones cs=true)(hnew:3*X.n0≤b)
  (k:EO X ops r ⟨upd t d (.int .i64 (m:Int)),upd h b (some (.row (cs++c.drop cs.length) e3)),n,w⟩ Q):EO X ops (o::r) ⟨t,h,n,w⟩ Q:=by
 obtain ⟨hw,hd,hn,ho,hu,hi,hs⟩:=hw
 have hmin:Nat.min m dLen=m:=Nat.min_eq_left hm
 have hc:∃W,ft X.E h n sT (evF t s) (evF t x)=some (.val (.int .i64 (m:Int)) (upd h b (some (.row (cs++c.drop cs.length) e3))) n W)∧∀y∈W,y=b:=by
  obtain ⟨h2,h3⟩:=hx
  cases cs with
  |nil=>
   refine ⟨[],?_,fun y hy=>by cases hy⟩
   rw [List.nil_append,List.length_nil,List.drop_zero,upd_self hb]
   simp only [ft,hu,hi,hs,h2,hmin,h3]
   rfl
  |cons v cs=>
   refine ⟨[b],?_,fun y hy=>List.mem_singleton.1 hy⟩
   have hst:vz h ⟨b,0,none⟩ (v::cs)=some (upd h b (some (.row ((v::cs)++c.drop (v::cs).length) e3))):=by
    rw [ta hb zo h1]
    unfold zn
    rw [List.take_zero,List.nil_append,Nat.zero_add]
   simp only [ft,hu,hi,hs,h2,hmin,h3,hst]
   rfl
 obtain ⟨W,hc,hW⟩:=hc
 have he:effF X.E o.op (evF t) h n=some (.val (.int .i64 (m:Int)) (upd h b (some (.row (cs++c.drop cs.length) e3))) n W):=by
  rw [ho]
  exact hc
 rw [lD hw (by rw [hd];exact hn) (by rw [ho];rfl) he,hd,yS fun y hy=>by rw [hW y hy];exact hnew]
 exact k
end
theorem Sl.extT {h:HF}{n:Nat}(s:Sl h n sz v c)(e:ExtT n b h h')(ho:Off b v):Sl h' n sz v c:=
 s.keep (fun a l cap ev=>by
  have hb:=s.below
  subst ev
  exact e _ hb ho) (Nat.le_refl _)
theorem mj {h:HF}{n:Nat}{X:List Nat}(hb:b<3*n)(hr:h b=some (.row (u64s X) e))(hc:X.length≤cap):Sl h n 1 (.slice (some ⟨b,0,none⟩) X.length cap) (u64s X):=.at_ hb hr rfl hc (by rw [zP];omega) (by rw [List.drop_zero,List.take_of_length_le (by rw [zP];omega)])
theorem ut {D X:List Nat}{x:Nat}(hx:X[D.length]?=some x):(D++X.drop D.length)[D.length]?=some x:=by
 rw [List.getElem?_append_right (Nat.le_refl _),Nat.sub_self,List.getElem?_drop,Nat.add_zero,hx]
theorem zO {X:List Nat}{x:Nat}(hx:X[j]?=some x):wv (X.take (j+1))=wv (X.take j)+18446744073709551616^j*x:=zQ hx
theorem y7 (D:List Nat)(d:Nat):wv (D++[d])=wv D+18446744073709551616^D.length*d:=wK _ _ _
theorem uL (D E:List Nat):wv (D++E)=wv D+18446744073709551616^D.length*wv E:=xH _ _ _
theorem qd (X:List Nat)(j:Nat)(hj:j≤X.length):wv X=wv (X.take j)+18446744073709551616^j*wv (X.drop j):=by
 conv=>lhs;rw [←List.take_append_drop j X]
 rw [uL,List.length_take,Nat.min_eq_left hj]
theorem pA {x y c:Nat}(hV:V+c*P=U)(hs:18446744073709551616*c'+s=x+y+c):V+P*s+c'*(P*18446744073709551616)=U+P*x+P*y:=by
 subst hV
 have:P*(18446744073709551616*c'+s)=P*(x+y+c):=by rw [hs]
 rw [Nat.mul_add,Nat.mul_add,Nat.mul_add,←Nat.mul_assoc] at this
 rw [Nat.mul_comm c' (P*18446744073709551616),Nat.mul_comm c P]
 omega
theorem vK {W x y c:Nat}(hV:V+W=U+c*P)(hs:s+y+c=x+18446744073709551616*c'):V+P*s+(W+P*y)=U+P*x+c'*(P*18446744073709551616):=by
 have:P*(s+y+c)=P*(x+18446744073709551616*c'):=by rw [hs]
 rw [Nat.mul_add,Nat.mul_add,Nat.mul_add,←Nat.mul_assoc] at this
 rw [Nat.mul_comm c' (P*18446744073709551616)]
 rw [Nat.mul_comm c P] at hV
 omega
theorem vM {x y c:Nat}(hx:x<18446744073709551616)(hy:y<18446744073709551616)(hc:c≤1):(x+18446744073709551616-y-c)%18446744073709551616+y+c=x+18446744073709551616*(if y+c≤x then 0 else 1):=by
 by_cases h:y+c≤x
 ·rw [if_pos h];omega
 rw [if_neg h];omega
def RowW (n:Nat)(h:HF)(b:Nat)(e:TypeId)(h':HF)(n':Nat)(w:List Nat)(L:List Nat):Prop:=(∀c∈w,c=b)∧n'=n∧ExtT n b h h'∧h' b=some (.row (u64s L) e)
theorem fR (k:Nat){h:HF}{n cX cY:Nat}{aY:Option Addr}{X Y:List Nat}(hb:b<3*n)(hrow:h b=some (.row (u64s X) e))(hcX:X.length≤cX)(hX:WdD X)(hYs:Sl h n 1 (.slice aY l cY) (u64s Y))(hY:WdD Y)(ho:Off b (.slice aY l cY))(hl:Y.length≤X.length)(hbig:X.length<1000000000)(hv:wv X+wv Y<18446744073709551616^X.length):
  CF (cal (k+1)) 172 [.slice (some ⟨b,0,none⟩) X.length cX,.slice aY l cY] h n fun _ h' n' w=>∃L,RowW n h b e h' n' w L∧WdD L∧L.length=X.length∧wv L=wv X+wv Y:=by
 refine fT (fn:=Tryz.f172) R4 ?_
 have hlY:=hYs.lenW
 subst hlY
 have fin:∀(t:TF) (h':HF) (w:List Nat) (D:List Nat) (c:Nat),(∀x∈w,x=b)→ExtT n b h h'→(w=[]→h'=h)→h' b=some (.row (u64s (D++X.drop D.length)) e)→D.length≤X.length→WdD D→wv D+c*18446744073709551616^D.length=wv (X.take D.length)+wv Y→c=0→(tN .normal=true∧∃vs,resF env ⟨t,h',n,w⟩ (Tryz.f172).results.toList=some vs∧(∃L,RowW n h b e h' n w L∧WdD L∧L.length=X.length∧wv L=wv X+wv Y)∧(w=[]→∃L,RowW n h b e h n [] L∧WdD L∧L.length=X.length∧wv L=wv X+wv Y)):=by
  intro t h' w D c g1 g2 g3 g4 g5 g6 g7 g8
  have hL:∃L,RowW n h b e h' n w L∧WdD L∧L.length=X.length∧wv L=wv X+wv Y:=⟨_,⟨g1,rfl,g2,g4⟩,g6.append (hX.drop _),by rw [List.length_append,List.length_drop];omega,by
   subst g8
   rw [uL]
   have h1:=qd X D.length g5
   omega⟩
  refine ⟨rfl,[],rfl,hL,fun hw=>?_⟩
  subst hw
  rw [g3 rfl] at hL
  exact hL
 refine zN ?_
 repeat refine zR ?_
 refine zN ?_
 repeat refine zR ?_
 refine zN ?_
 refine zV (α:=List Nat×Nat) (fun z=>[(0,.slice (some ⟨b,0,none⟩) X.length cX),(1,.slice aY Y.length cY),(4,.int .u64 (z.2:Int)),(8,.slice aY Y.length cY),(9,.int .i64 (Y.length:Int)),(10,.int .i64 (z.1.length:Int))])
  (fun z h' n' w=>n=n'∧(∀x∈w,x=b)∧ExtT n b h h'∧(w=[]→h'=h)∧h' b=some (.row (u64s (z.1++X.drop z.1.length)) e)∧z.1.length≤Y.length∧WdD z.1∧z.2≤1∧wv z.1+z.2*18446744073709551616^z.1.length=wv (X.take z.1.length)+wv (Y.take z.1.length)) (fun z=>Y.length-z.1.length)
  ([],0) ⟨rfl,rfl,rfl,rfl,rfl,rfl,trivial⟩ ⟨rfl,fun x hx=>absurd hx List.not_mem_nil,ExtT.refl _ _ _,fun _=>rfl,hrow,Nat.zero_le _,WdD.nil,by show (0:Nat)≤1;decide,by simp [wv,dv]⟩ (by show Y.length-0<LL;unfold LL;omega) ?_
 rintro ⟨D,c⟩ t h1 _ w ⟨rfl,hw,hx1,hw0,hr1,hD,hDd,hc,hV⟩
 simp only at hr1 hD hDd hc hV
 refine zN ?_
 by_cases hDY:D.length=Y.length
 case neg=>
  obtain ⟨y,hy⟩:∃y,Y[D.length]?=some y:=⟨Y[D.length]'zo,List.getElem?_eq_getElem zo⟩
  obtain ⟨x,hx⟩:∃x,X[D.length]?=some x:=⟨X[D.length]'zo,List.getElem?_eq_getElem zo⟩
  have hyl:=hY.get hy
  have hxl:=hX.get hx
  have hZ:=mj (cap:=cX) hb hr1 (by rw [List.length_append,List.length_drop];omega)
  rw [show (D++X.drop D.length).length=X.length from by rw [List.length_append,List.length_drop];omega] at hZ
  repeat refine zR ?_
  refine zN ?_
  rw [zc rfl]
  refine zN ?_
  repeat refine zR ?_
  refine z6 (f:=fun d:Nat=>Value.int .u64 (d:Int)) (j:=D.length) R7 (hYs.extT hx1 ho) R2 hy (fun _=>rfl) R4 fun _=>?_
  repeat refine zR ?_
  refine zN ?_
  repeat refine zR ?_
  refine z6 (f:=fun d:Nat=>Value.int .u64 (d:Int)) (j:=D.length) R7 hZ R2 (ut hx) (fun _=>rfl) R4 fun _=>?_
  repeat refine zR ?_
  refine uk (x:=x) (y:=y) (c:=c) R5 hc ?_
  obtain ⟨s,hs⟩:∃s,s=(x+y+c)%18446744073709551616:=⟨_,rfl⟩
  obtain ⟨c',hc'⟩:∃c',c'=(x+y+c)/18446744073709551616:=⟨_,rfl⟩
  rw [←hs,←hc']
  repeat refine zR ?_
  refine yD (j:=D.length) (off:=0) (v:=.int .u64 (s:Int)) R8 rfl ⟨zo,by rw [zP,List.length_append,List.length_drop];omega⟩ hr1 hb (fun _=>rfl) R3 (fun _=>rfl) rfl fun _=>?_
  rw [Nat.zero_add,yo,te _ hx]
  repeat refine zR ?_
  refine zN ?_
  repeat refine zR ?_
  refine zN ?_
  have hsl:s<18446744073709551616:=by rw [hs];exact Nat.mod_lt _ zd
  have hcl:c'≤1:=by rw [hc'];omega
  have hsc:18446744073709551616*c'+s=x+y+c:=by rw [hs,hc'];omega
  refine goOn (D++[s],c') (by show Y.length-(D++[s]).length<Y.length-D.length;rw [List.length_append,List.length_singleton];omega) ⟨rfl,rfl,rfl,rfl,rfl,by show Value.int .i64 _=Value.int .i64 _;rw [List.length_append];rfl,trivial⟩ ⟨rfl,fun z hz=>by
   rcases List.mem_cons.1 hz with rfl|hz
   ·rfl
   ·exact hw z hz,fun z hz hzb=>(zh hzb).trans (hx1 z hz hzb),fun h=>(by cases h),ze _ _ _,by show (D++[s]).length≤_;rw [List.length_append,List.length_singleton];omega,WdD.snoc hDd hsl,hcl,?_⟩
  simp only
  rw [List.length_append,List.length_singleton,y7,zO hx,zO hy,Nat.pow_succ]
  have:=pA hV hsc;omega
 have hYt:Y.take D.length=Y:=by rw [hDY,List.take_length]
 rw [hYt] at hV
 repeat refine zR ?_
 refine zN ?_
 rw [za rfl]
 refine zN ?_
 repeat refine zR ?_
 refine zN ?_
 refine zV (α:=List Nat×Nat) (fun z=>[(0,.slice (some ⟨b,0,none⟩) X.length cX),(4,.int .u64 (z.2:Int)),(7,.int .i64 (z.1.length:Int))])
  (fun z h' n' w=>n=n'∧(∀x∈w,x=b)∧ExtT n b h h'∧(w=[]→h'=h)∧h' b=some (.row (u64s (z.1++X.drop z.1.length)) e)∧z.1.length≤X.length∧WdD z.1∧z.2≤1∧wv z.1+z.2*18446744073709551616^z.1.length=wv (X.take z.1.length)+wv Y) (fun z=>X.length-z.1.length)
  (D,c) ⟨rfl,rfl,by show Value.int .i64 _=Value.int .i64 _;rw [hDY],trivial⟩ ⟨rfl,hw,hx1,hw0,hr1,by show D.length≤_;omega,hDd,hc,hV⟩ (by show X.length-D.length<LL;unfold LL;omega) ?_
 clear hV hc hDd hr1 hw0 hx1 hw hYt hDY hD
 rintro ⟨D,c⟩ t h1 _ w ⟨rfl,hw,hx1,hw0,hr1,hD,hDd,hc,hV⟩
 simp only at hr1 hD hDd hc hV
 refine zN ?_
 by_cases hc0:c=0
 ·repeat refine zR ?_
  refine zN ?_
  rw [za rfl]
  refine zN ?_
  exact fin _ _ _ D c hw hx1 hw0 hr1 hD hDd hV hc0
 by_cases hDX:D.length=X.length
 ·repeat refine zR ?_
  refine zN ?_
  rw [za rfl]
  refine zN ?_
  refine fin _ _ _ D c hw hx1 hw0 hr1 hD hDd hV ?_
  have hDl:=wQ hDd
  rw [hDX,List.take_length] at hV
  rw [hDX] at hDl
  rcases Nat.eq_zero_or_pos c with h|h
  ·exact h
  have:=Nat.mul_le_mul_right (18446744073709551616^X.length) h
  omega
 obtain ⟨x,hx⟩:∃x,X[D.length]?=some x:=⟨X[D.length]'zo,List.getElem?_eq_getElem zo⟩
 have hxl:=hX.get hx
 have hZ:=mj (cap:=cX) hb hr1 (by rw [List.length_append,List.length_drop];omega)
 rw [show (D++X.drop D.length).length=X.length from by rw [List.length_append,List.length_drop];omega] at hZ
 repeat refine zR ?_
 refine zN ?_
 rw [zc rfl]
 refine zN ?_
 repeat refine zR ?_
 refine z6 (f:=fun d:Nat=>Value.int .u64 (d:Int)) (j:=D.length) R7 hZ R2 (ut hx) (fun _=>rfl) R4 fun _=>?_
 repeat refine zR ?_
 refine uk (x:=x) (y:=0) (c:=c) R5 hc ?_
 obtain ⟨s,hs⟩:∃s,s=(x+0+c)%18446744073709551616:=⟨_,rfl⟩
 obtain ⟨c',hc'⟩:∃c',c'=(x+0+c)/18446744073709551616:=⟨_,rfl⟩
 rw [←hs,←hc']
 repeat refine zR ?_
 refine yD (j:=D.length) (off:=0) (v:=.int .u64 (s:Int)) R8 rfl ⟨zo,by rw [zP,List.length_append,List.length_drop];omega⟩ hr1 hb (fun _=>rfl) R3 (fun _=>rfl) rfl fun _=>?_
 rw [Nat.zero_add,yo,te _ hx]
 repeat refine zR ?_
 refine zN ?_
 repeat refine zR ?_
 refine zN ?_
 have hsl:s<18446744073709551616:=by rw [hs];exact Nat.mod_lt _ zd
 have hcl:c'≤1:=by rw [hc'];omega
 have hsc:18446744073709551616*c'+s=x+0+c:=by rw [hs,hc'];omega
 refine goOn (D++[s],c') (by show X.length-(D++[s]).length<X.length-D.length;rw [List.length_append,List.length_singleton];omega) ⟨rfl,rfl,by show Value.int .i64 _=Value.int .i64 _;rw [List.length_append];rfl,trivial⟩ ⟨rfl,fun z hz=>by
  rcases List.mem_cons.1 hz with rfl|hz
  ·rfl
  ·exact hw z hz,fun z hz hzb=>(zh hzb).trans (hx1 z hz hzb),fun h=>(by cases h),ze _ _ _,by show (D++[s]).length≤_;rw [List.length_append,List.length_singleton];omega,WdD.snoc hDd hsl,hcl,?_⟩
 simp only
 rw [List.length_append,List.length_singleton,y7,zO hx,Nat.pow_succ]
 have:=pA hV hsc;omega
theorem gn (k:Nat){h:HF}{n cX cY:Nat}{aY:Option Addr}{X Y:List Nat}(hb:b<3*n)(hrow:h b=some (.row (u64s X) e))(hcX:X.length≤cX)(hX:WdD X)(hYs:Sl h n 1 (.slice aY l cY) (u64s Y))(hY:WdD Y)(ho:Off b (.slice aY l cY))(hl:Y.length≤X.length)(hbig:X.length<1000000000)(hv:wv Y≤wv X):
  CF (cal (k+1)) 177 [.slice (some ⟨b,0,none⟩) X.length cX,.slice aY l cY] h n fun _ h' n' w=>∃L,RowW n h b e h' n' w L∧WdD L∧L.length=X.length∧wv L+wv Y=wv X:=by
 refine fT (fn:=Tryz.f177) R4 ?_
 have hlY:=hYs.lenW
 subst hlY
 have fin:∀(t:TF) (h':HF) (w:List Nat) (D:List Nat) (c:Nat),(∀x∈w,x=b)→ExtT n b h h'→(w=[]→h'=h)→h' b=some (.row (u64s (D++X.drop D.length)) e)→D.length≤X.length→WdD D→wv D+wv Y=wv (X.take D.length)+c*18446744073709551616^D.length→c=0→(tN .normal=true∧∃vs,resF env ⟨t,h',n,w⟩ (Tryz.f177).results.toList=some vs∧(∃L,RowW n h b e h' n w L∧WdD L∧L.length=X.length∧wv L+wv Y=wv X)∧(w=[]→∃L,RowW n h b e h n [] L∧WdD L∧L.length=X.length∧wv L+wv Y=wv X)):=by
  intro t h' w D c g1 g2 g3 g4 g5 g6 g7 g8
  have hL:∃L,RowW n h b e h' n w L∧WdD L∧L.length=X.length∧wv L+wv Y=wv X:=⟨_,⟨g1,rfl,g2,g4⟩,g6.append (hX.drop _),by rw [List.length_append,List.length_drop];omega,by
   subst g8
   rw [uL]
   have h1:=qd X D.length g5
   omega⟩
  refine ⟨rfl,[],rfl,hL,fun hw=>?_⟩
  subst hw
  rw [g3 rfl] at hL
  exact hL
 refine zN ?_
 repeat refine zR ?_
 refine zN ?_
 repeat refine zR ?_
 refine zN ?_
 refine zV (α:=List Nat×Nat) (fun z=>[(0,.slice (some ⟨b,0,none⟩) X.length cX),(1,.slice aY Y.length cY),(4,.int .u64 (z.2:Int)),(8,.slice aY Y.length cY),(9,.int .i64 (Y.length:Int)),(10,.int .i64 (z.1.length:Int))])
  (fun z h' n' w=>n=n'∧(∀x∈w,x=b)∧ExtT n b h h'∧(w=[]→h'=h)∧h' b=some (.row (u64s (z.1++X.drop z.1.length)) e)∧z.1.length≤Y.length∧WdD z.1∧z.2≤1∧wv z.1+wv (Y.take z.1.length)=wv (X.take z.1.length)+z.2*18446744073709551616^z.1.length) (fun z=>Y.length-z.1.length)
  ([],0) ⟨rfl,rfl,rfl,rfl,rfl,rfl,trivial⟩ ⟨rfl,fun x hx=>absurd hx List.not_mem_nil,ExtT.refl _ _ _,fun _=>rfl,hrow,Nat.zero_le _,WdD.nil,by show (0:Nat)≤1;decide,by simp [wv,dv]⟩ (by show Y.length-0<LL;unfold LL;omega) ?_
 rintro ⟨D,c⟩ t h1 _ w ⟨rfl,hw,hx1,hw0,hr1,hD,hDd,hc,hV⟩
 simp only at hr1 hD hDd hc hV
 refine zN ?_
 by_cases hDY:D.length=Y.length
 case neg=>
  obtain ⟨y,hy⟩:∃y,Y[D.length]?=some y:=⟨Y[D.length]'zo,List.getElem?_eq_getElem zo⟩
  obtain ⟨x,hx⟩:∃x,X[D.length]?=some x:=⟨X[D.length]'zo,List.getElem?_eq_getElem zo⟩
  have hyl:=hY.get hy
  have hxl:=hX.get hx
  have hZ:=mj (cap:=cX) hb hr1 (by rw [List.length_append,List.length_drop];omega)
  rw [show (D++X.drop D.length).length=X.length from by rw [List.length_append,List.length_drop];omega] at hZ
  repeat refine zR ?_
  refine zN ?_
  rw [zc rfl]
  refine zN ?_
  repeat refine zR ?_
  refine z6 (f:=fun d:Nat=>Value.int .u64 (d:Int)) (j:=D.length) R7 (hYs.extT hx1 ho) R2 hy (fun _=>rfl) R4 fun _=>?_
  repeat refine zR ?_
  refine zN ?_
  repeat refine zR ?_
  refine z6 (f:=fun d:Nat=>Value.int .u64 (d:Int)) (j:=D.length) R7 hZ R2 (ut hx) (fun _=>rfl) R4 fun _=>?_
  repeat refine zR ?_
  refine sd (x:=x) (y:=y) (c:=c) R5 hc ?_
  obtain ⟨s,hs⟩:∃s,s=(x+18446744073709551616-y-c)%18446744073709551616:=⟨_,rfl⟩
  obtain ⟨c',hc'⟩:∃c',c'=(if y+c≤x then 0 else 1):=⟨_,rfl⟩
  rw [←hs,←hc']
  repeat refine zR ?_
  refine yD (j:=D.length) (off:=0) (v:=.int .u64 (s:Int)) R8 rfl ⟨zo,by rw [zP,List.length_append,List.length_drop];omega⟩ hr1 hb (fun _=>rfl) R3 (fun _=>rfl) rfl fun _=>?_
  rw [Nat.zero_add,yo,te _ hx]
  repeat refine zR ?_
  refine zN ?_
  repeat refine zR ?_
  refine zN ?_
  have hsl:s<18446744073709551616:=by rw [hs];exact Nat.mod_lt _ zd
  have hcl:c'≤1:=by rw [hc'];split<;>decide
  have hsc:s+y+c=x+18446744073709551616*c':=by rw [hs,hc'];exact vM hxl (by first|exact hyl|decide) hc
  refine goOn (D++[s],c') (by show Y.length-(D++[s]).length<Y.length-D.length;rw [List.length_append,List.length_singleton];omega) ⟨rfl,rfl,rfl,rfl,rfl,by show Value.int .i64 _=Value.int .i64 _;rw [List.length_append];rfl,trivial⟩ ⟨rfl,fun z hz=>by
   rcases List.mem_cons.1 hz with rfl|hz
   ·rfl
   ·exact hw z hz,fun z hz hzb=>(zh hzb).trans (hx1 z hz hzb),fun h=>(by cases h),ze _ _ _,by show (D++[s]).length≤_;rw [List.length_append,List.length_singleton];omega,WdD.snoc hDd hsl,hcl,?_⟩
  simp only
  rw [List.length_append,List.length_singleton,y7,zO hx,zO hy,Nat.pow_succ]
  have:=vK hV hsc;omega
 have hYt:Y.take D.length=Y:=by rw [hDY,List.take_length]
 rw [hYt] at hV
 repeat refine zR ?_
 refine zN ?_
 rw [za rfl]
 refine zN ?_
 repeat refine zR ?_
 refine zN ?_
 refine zV (α:=List Nat×Nat) (fun z=>[(0,.slice (some ⟨b,0,none⟩) X.length cX),(4,.int .u64 (z.2:Int)),(7,.int .i64 (z.1.length:Int))])
  (fun z h' n' w=>n=n'∧(∀x∈w,x=b)∧ExtT n b h h'∧(w=[]→h'=h)∧h' b=some (.row (u64s (z.1++X.drop z.1.length)) e)∧z.1.length≤X.length∧WdD z.1∧z.2≤1∧wv z.1+wv Y=wv (X.take z.1.length)+z.2*18446744073709551616^z.1.length) (fun z=>X.length-z.1.length)
  (D,c) ⟨rfl,rfl,by show Value.int .i64 _=Value.int .i64 _;rw [hDY],trivial⟩ ⟨rfl,hw,hx1,hw0,hr1,by show D.length≤_;omega,hDd,hc,hV⟩ (by show X.length-D.length<LL;unfold LL;omega) ?_
 clear hV hc hDd hr1 hw0 hx1 hw hYt hDY hD
 rintro ⟨D,c⟩ t h1 _ w ⟨rfl,hw,hx1,hw0,hr1,hD,hDd,hc,hV⟩
 simp only at hr1 hD hDd hc hV
 refine zN ?_
 by_cases hc0:c=0
 ·repeat refine zR ?_
  refine zN ?_
  rw [za rfl]
  refine zN ?_
  exact fin _ _ _ D c hw hx1 hw0 hr1 hD hDd hV hc0
 by_cases hDX:D.length=X.length
 ·repeat refine zR ?_
  refine zN ?_
  rw [za rfl]
  refine zN ?_
  refine fin _ _ _ D c hw hx1 hw0 hr1 hD hDd hV ?_
  have hDl:=wQ hDd
  rw [hDX,List.take_length] at hV
  rw [hDX] at hDl
  rcases Nat.eq_zero_or_pos c with h|h
  ·exact h
  have:=Nat.mul_le_mul_right (18446744073709551616^X.length) h
  omega
 obtain ⟨x,hx⟩:∃x,X[D.length]?=some x:=⟨X[D.length]'zo,List.getElem?_eq_getElem zo⟩
 have hxl:=hX.get hx
 have hZ:=mj (cap:=cX) hb hr1 (by rw [List.length_append,List.length_drop];omega)
 rw [show (D++X.drop D.length).length=X.length from by rw [List.length_append,List.length_drop];omega] at hZ
 repeat refine zR ?_
 refine zN ?_
 rw [zc rfl]
 refine zN ?_
 repeat refine zR ?_
 refine z6 (f:=fun d:Nat=>Value.int .u64 (d:Int)) (j:=D.length) R7 hZ R2 (ut hx) (fun _=>rfl) R4 fun _=>?_
 repeat refine zR ?_
 refine sd (x:=x) (y:=0) (c:=c) R5 hc ?_
 obtain ⟨s,hs⟩:∃s,s=(x+18446744073709551616-0-c)%18446744073709551616:=⟨_,rfl⟩
 obtain ⟨c',hc'⟩:∃c',c'=(if 0+c≤x then 0 else 1):=⟨_,rfl⟩
 rw [←hs,←hc']
 repeat refine zR ?_
 refine yD (j:=D.length) (off:=0) (v:=.int .u64 (s:Int)) R8 rfl ⟨zo,by rw [zP,List.length_append,List.length_drop];omega⟩ hr1 hb (fun _=>rfl) R3 (fun _=>rfl) rfl fun _=>?_
 rw [Nat.zero_add,yo,te _ hx]
 repeat refine zR ?_
 refine zN ?_
 repeat refine zR ?_
 refine zN ?_
 have hsl:s<18446744073709551616:=by rw [hs];exact Nat.mod_lt _ zd
 have hcl:c'≤1:=by rw [hc'];split<;>decide
 have hsc:s+0+c=x+18446744073709551616*c':=by rw [hs,hc'];exact vM hxl (by first|exact hyl|decide) hc
 refine goOn (D++[s],c') (by show X.length-(D++[s]).length<X.length-D.length;rw [List.length_append,List.length_singleton];omega) ⟨rfl,rfl,by show Value.int .i64 _=Value.int .i64 _;rw [List.length_append];rfl,trivial⟩ ⟨rfl,fun z hz=>by
  rcases List.mem_cons.1 hz with rfl|hz
  ·rfl
  ·exact hw z hz,fun z hz hzb=>(zh hzb).trans (hx1 z hz hzb),fun h=>(by cases h),ze _ _ _,by show (D++[s]).length≤_;rw [List.length_append,List.length_singleton];omega,WdD.snoc hDd hsl,hcl,?_⟩
 simp only
 rw [List.length_append,List.length_singleton,y7,zO hx,Nat.pow_succ]
 have:=vK hV hsc;omega
theorem xJ {n:Nat}{h:HF}(hb:b<3*n)(hr:h b=some (.row (u64s L) e))(hl:L.length=l):Sl h n 1 (.slice (some ⟨b,0,none⟩) l l) (u64s L):=by
 subst hl
 exact mj hb hr (Nat.le_refl _)
theorem wN (h:WdD L):NW (zT L)∧wv (zT L)=wv L:=⟨NW.trim h,qe _ _⟩
def zf4 (n:Nat)(v u1 u2:Value):Prop:=ym n v∨v=u1∨v=u2
theorem jr (k:Nat){h:HF}{n:Nat}(hA:Sl h n 1 (.slice a1 l1 c1) (u64s A))(hC:Sl h n 1 (.slice a2 l2 c2) (u64s C))(nA:NW A)(nC:NW C)(hb:A.length<100000000∧C.length<100000000):
  CF (cal (k+2)) 135 [.slice a1 l1 c1,.slice a2 l2 c2] h n fun v h' n' w=>∃L,ResW n h v h' n' w L∧wv L=wv A+wv C∧zf4 n v (.slice a1 l1 c1) (.slice a2 l2 c2):=by
 refine zr (fn:=Tryz.f135) R4 ?_
 have e1:=hA.lenW
 have e2:=hC.lenW
 subst e1 e2
 refine zN ?_
 repeat refine zR ?_
 refine zN ?_
 refine zM ?_
 refine st_I (ik:=.i64) (a:=(A.length:Int)) R5 ?_
 refine zM ?_
 refine st_I (ik:=.i64) (a:=(C.length:Int)) R5 ?_
 refine pE R6 ?_
 simp only [zZ,yc,zk,yd]
 refine yI (α:=(Option Addr×Nat×List Nat)×(Option Addr×Nat×List Nat)) (fun z=>[(0,.slice z.1.1 z.1.2.2.length z.1.2.1),(1,.slice z.2.1 z.2.2.2.length z.2.2.1)]) (fun z h' n' w=>h=h'∧n=n'∧w=[]∧Sl h n 1 (.slice z.1.1 z.1.2.2.length z.1.2.1) (u64s z.1.2.2)∧Sl h n 1 (.slice z.2.1 z.2.2.2.length z.2.2.1) (u64s z.2.2.2)∧NW z.1.2.2∧NW z.2.2.2∧z.2.2.2.length≤z.1.2.2.length∧z.1.2.2.length<100000000∧wv z.1.2.2+wv z.2.2.2=wv A+wv C∧(Value.slice z.1.1 z.1.2.2.length z.1.2.1=.slice a1 A.length c1∨Value.slice z.1.1 z.1.2.2.length z.1.2.1=.slice a2 C.length c2)) ?_ ?_
 ·by_cases hlt:A.length<C.length
  ·rw [zc (by show Value.bool _=_;rw [decide_eq_true zo])]
   refine zN ?_
   repeat refine zR ?_
   refine zN ?_
   exact zS ((a2,c2,C),(a1,c1,A)) ⟨rfl,rfl,trivial⟩ ⟨rfl,rfl,rfl,hC,hA,nC,nA,by show A.length≤C.length;omega,hb.2,Nat.add_comm _ _,.inr rfl⟩
  rw [za (by show Value.bool _=_;rw [decide_eq_false zo])]
  refine zN ?_
  exact zS ((a1,c1,A),(a2,c2,C)) ⟨rfl,rfl,trivial⟩ ⟨rfl,rfl,rfl,hA,hC,nA,nC,by show C.length≤A.length;omega,hb.1,rfl,.inl rfl⟩
 rintro ⟨⟨a,c,X⟩,⟨a',c',Y⟩⟩ t _ _ _ ⟨rfl,rfl,rfl,hX,hY,nX,nY,hYX,hXl,hsum,hv⟩
 simp only at hX hY nX nY hYX hXl hsum hv
 rw [←hsum]
 refine zN ?_
 by_cases hY0:Y.length=0
 ·repeat refine zR ?_
  refine zN ?_
  rw [zc rfl]
  refine zN ?_
  repeat refine zR ?_
  refine zN ?_
  rw [List.length_eq_zero_iff.1 hY0]
  exact retH _ ⟨rfl,(zi rfl),rfl⟩ ⟨X,⟨rfl,Nat.le_refl _,Ext.refl _ _,hX,nX⟩,rfl,.inr hv⟩
 repeat refine zR ?_
 refine zN ?_
 rw [za rfl]
 refine zN ?_
 repeat refine zR ?_
 refine xD (len:=X.length+1) (cap:=X.length+1) R9 zo ?_
 rw [show zl (Value.int .u64 0)=[Value.int .u64 0] from rfl,wq]
 repeat refine zR ?_
 refine zN ?_
 repeat refine zR ?_
 have hX1:=hX.ext (Ext.upd (h:=h) (b:=3*n+2) (x:=some (.row (u64s (List.replicate (X.length+1) 0)) 170)) (show 3*n≤3*n+2 by omega)) (Nat.le_succ n)
 refine oU (m:=X.length) R7 (vI hX1) zs (ze _ _ _) (by rw [zP,zP];simp) (uP X) (by show 3*n≤3*n+2;omega) ?_
 rw [xC,zP,t8,←wU,List.drop_replicate,show X.length+1-X.length=1 from zo]
 generalize hh:upd h (3*n+2) _=h1
 have hr1:∃e,h1 (3*n+2)=some (.row (u64s (X++[0])) e):=⟨_,by rw [←hh,ze];rfl⟩
 obtain ⟨e,hr1⟩:=hr1
 have hx1:Ext n h h1:=by rw [←hh];exact Ext.upd zo
 clear hh hX1
 have hlen1:(X++[0]).length=X.length+1:=by simp
 have hw0:wv (X++[0])=wv X:=by rw [y7,Nat.mul_zero,Nat.add_zero]
 have hbnd:wv (X++[0])+wv Y<18446744073709551616^(X++[0]).length:=by
  have h1:=wQ nX.1
  have h2:=wQ nY.1
  have h3:18446744073709551616^Y.length≤18446744073709551616^X.length:=Nat.pow_le_pow_right zd hYX
  rw [hw0,hlen1,Nat.pow_succ]
  omega
 refine zN ?_
 repeat refine zR ?_
 have hadd:=fR k (h:=h1) (n:=n+1) (b:=3*n+2) (X:=X++[0]) (cX:=X.length+1) zo hr1 zo (WdD.snoc nX.1 zd) (hY.ext hx1 (Nat.le_succ n)) nY.1 (hY.below.off zo) zo zo hbnd
 rw [hlen1] at hadd
 refine zu _ R5 hadd ?_
 rintro _ h2 _ w2 ⟨L,⟨hw2,rfl,hx2,hr2⟩,hLd,hLl,hLv⟩
 try simp only [sX]
 rw [yS (w:=[]) fun y hy=>by rw [hw2 y hy];show 3*n≤3*n+2;omega]
 repeat refine zR ?_
 refine zN ?_
 repeat refine zR ?_
 have htr:=xV k (h:=h2) (n:=n+1) (a:=some ⟨3*n+2,0,none⟩) (len:=X.length+1) (cap:=X.length+1) (l:=L) zo (fun _ e=>by injection e with e;rw [←e]) (xJ zo hr2 zo)
 refine zu _ R5 htr ?_
 rintro _ _ _ _ ⟨rfl,rfl,rfl,rfl,hs⟩
 repeat refine zR ?_
 refine zN ?_
 obtain ⟨t1,t2⟩:=wN hLd
 exact retH _ ⟨rfl,(zi rfl),rfl⟩ ⟨_,⟨rfl,Nat.le_succ n,fun b hb=>(hx2 b zo zo).trans (hx1 b hb),hs,t1⟩,by rw [t2,hLv,hw0],.inl (by show 3*n≤3*n+2;omega)⟩
theorem lW (k:Nat){h:HF}{n:Nat}(hA:Sl h n 1 (.slice a1 l1 c1) (u64s A))(hC:Sl h n 1 (.slice a2 l2 c2) (u64s C))(nA:NW A)(nC:NW C)(hb:A.length<100000000)(hle:wv C≤wv A):
  CF (cal (k+2)) 137 [.slice a1 l1 c1,.slice a2 l2 c2] h n fun v h' n' w=>∃L,ResW n h v h' n' w L∧wv L=wv A-wv C∧zf4 n v (.slice a1 l1 c1) (.slice a2 l2 c2):=by
 refine zr (fn:=Tryz.f137) R4 ?_
 have e1:=hA.lenW
 have e2:=hC.lenW
 subst e1 e2
 have hlen:C.length≤A.length:=by
  rcases Nat.lt_or_ge A.length C.length with hl|hl
  ·have:=nA.len_lt nC hl;omega
  exact hl
 refine zN ?_
 repeat refine zR ?_
 refine zN ?_
 by_cases hC0:C.length=0
 ·repeat refine zR ?_
  refine zN ?_
  rw [zc rfl]
  refine zN ?_
  repeat refine zR ?_
  refine zN ?_
  rw [List.length_eq_zero_iff.1 hC0]
  exact retH _ ⟨rfl,(zi rfl),rfl⟩ ⟨A,⟨rfl,Nat.le_refl _,Ext.refl _ _,hA,nA⟩,rfl,.inr (.inl rfl)⟩
 repeat refine zR ?_
 refine zN ?_
 rw [za rfl]
 refine zN ?_
 refine zM ?_
 refine zu _ R5 (vY k hA zo) ?_
 rintro v1 h1 n1 _ ⟨rfl,hn1,hx1,hs1,hg1⟩
 obtain ⟨b,rfl,_,hb1,hb2,hr1,_⟩:=(hg1 (fun e=>by rw [e] at hlen;simp at hlen;exact hC0 (by rw [hlen];rfl))).inv2 zo
 repeat refine zR ?_
 refine zN ?_
 repeat refine zR ?_
 refine zu _ R5 (gn k (cX:=A.length) hb2 hr1 (Nat.le_refl _) nA.1 (hC.ext hx1 hn1) nC.1 (hC.below.off zo) hlen zo hle) ?_
 rintro _ h2 n2 w2 ⟨L,⟨hw2,rfl,hx2,hr2⟩,hLd,hLl,hLv⟩
 try simp only [sX]
 rw [yS (w:=[]) fun y hy=>by rw [hw2 y hy];exact hb1]
 repeat refine zR ?_
 refine zN ?_
 repeat refine zR ?_
 have htr:=xV k (h:=h2) (n:=n2) (a:=some ⟨b,0,none⟩) (len:=A.length) (cap:=A.length) (l:=L) zo (fun _ e=>by injection e with e;rw [←e]) (xJ hb2 hr2 hLl)
 refine zu _ R5 htr ?_
 rintro _ _ _ _ ⟨rfl,rfl,rfl,rfl,hs⟩
 repeat refine zR ?_
 refine zN ?_
 obtain ⟨t1,t2⟩:=wN hLd
 exact retH _ ⟨rfl,(zi rfl),rfl⟩ ⟨_,⟨rfl,hn1,fun c hc=>(hx2 c zo zo).trans (hx1 c hc),hs,t1⟩,by rw [t2];omega,.inl hb1⟩
end
section
variable {cap:Nat}{off:Nat}
section
variable {X:CtxF}{ops r:List Oper}{t:TF}{h:HF}{n:Nat}{w:List Nat}{Q:SV→Prop}{o:Oper}{d:Tmp}
theorem qI {lo hi:Operand}{j j':Int}(m m':Nat)(hw:zg ops t o=true∧o.dst=some d∧zm X.nt (some d)=true∧o.op=.slice ty x (some lo) (some hi) none∧X.E.und ty=some (.slice e)∧X.E.inf e=some (sz,bt,z)∧evF t x=.slice (some ⟨b,off,none⟩) len cap∧evF t lo=.int ik j∧evF t hi=.int ik' j')(hm:j=(m:Int))(hm':j'=(m':Int))(hr:m≤m'∧m'≤cap∧m<cap)
  (k:EO X ops r ⟨upd t d (.slice (some ⟨b,off+m*sz,none⟩) (m'-m) (cap-m)),h,n,w⟩ Q):EO X ops (o::r) ⟨t,h,n,w⟩ Q:=by
 obtain ⟨hw,hd,hn,ho,hu,hi',hx,hj,hj'⟩:=hw
 refine zF ⟨hw,hd,hn,(by rw [ho];rfl)⟩ ?_ k
 rw [ho]
 subst hm hm'
 show xF X.E ty (evF t x) (some (evF t lo)) (some (evF t hi))=_
 rw [hx,hj,hj']
 have h1:(0:Int)≤(m':Int)∧(m':Int)≤cap:=zo
 have h0:(0:Int)≤(m:Int)∧(m:Int)≤m':=zo
 have hb:Nat.ble cap m=false:=by
  cases hb:Nat.ble cap m with
  |false=>rfl
  |true=>have:=Nat.le_of_ble_eq_true hb;omega
 have h2:(gro b&&(Nat.ble 1 m&&Nat.ble cap m))=false:=by rw [hb];simp
 have h3:offA cap m sz ⟨b,off,none⟩=⟨b,off+m*sz,none⟩:=by
  unfold offA
  have:Nat.beq cap m=false:=by
   cases hb:Nat.beq cap m with
   |false=>rfl
   |true=>have:=Nat.eq_of_beq_eq_true hb;omega
  rw [this,vi]
 simp only [xF,hu,hi',bnd,if_pos h1,if_pos h0,Int.toNat_natCast,h2,h3]
end
theorem jv {h:HF}{n:Nat}{P S:List Nat}(hb:b<3*n)(hr:h b=some (.row (u64s (P++(Z++S))) e))(hc:Z.length≤cap):Sl h n 1 (.slice (some ⟨b,P.length,none⟩) Z.length cap) (u64s Z):=by
 refine .at_ hb hr rfl hc (by rw [zP];simp only [List.length_append];omega) ?_
 rw [t8,tZ,List.drop_left' rfl,Nat.mul_one,List.take_left' rfl]
theorem o4 {P S D:List Nat}{x:Nat}(d:Nat)(hx:Z[D.length]?=some x):(P++((D++Z.drop D.length)++S)).set (P.length+D.length) d=P++(((D++[d])++Z.drop (D++[d]).length)++S):=by
 have hl:D.length<Z.length:=(List.getElem?_eq_some_iff.1 hx).1
 rw [List.set_append_right _ _ zo,show P.length+D.length-P.length=D.length from zo,List.set_append_left _ _ (by rw [List.length_append,List.length_drop];omega),te d hx]
theorem rU {v w:Nat}(hv:v<18446744073709551616)(hw:w<18446744073709551616):v*w≤340282366920938463426481119284349108225:=Nat.le_trans (Nat.mul_le_mul (Nat.le_sub_one_of_lt hv) (Nat.le_sub_one_of_lt hw)) zd
theorem jS {W z v w c:Nat}(hV:V+c*P=U+W*w)(hs:18446744073709551616*c'+s=z+v*w+c):V+P*s+c'*(P*18446744073709551616)=U+P*z+(W+P*v)*w:=by
 have:P*(18446744073709551616*c'+s)=P*(z+v*w+c):=by rw [hs]
 rw [Nat.mul_add,Nat.mul_add,Nat.mul_add,←Nat.mul_assoc] at this
 rw [Nat.mul_comm c' (P*18446744073709551616),Nat.add_mul,Nat.mul_assoc P v w]
 rw [Nat.mul_comm c P] at hV
 omega
theorem fQ (k:Nat){h:HF}{n cZ cX:Nat}{aX:Option Addr}{P S X:List Nat}{w:Nat}(hb:b<3*n)(hrow:h b=some (.row (u64s (P++(Z++S))) e))(hcZ:Z.length≤cZ)(hZ:WdD Z)(hXs:Sl h n 1 (.slice aX l cX) (u64s X))(hX:WdD X)(ho:Off b (.slice aX l cX))(hl:Z.length=X.length)(hbig:X.length<1000000000)(hw:w<18446744073709551616):
  CF (cal (k+2)) 178 [.slice (some ⟨b,P.length,none⟩) Z.length cZ,.slice aX l cX,.int .u64 (w:Int)] h n fun v h' n' W=>∃(L:List Nat) (c:Nat),v=.int .u64 (c:Int)∧c<18446744073709551616∧RowW n h b e h' n' W (P++(L++S))∧WdD L∧L.length=Z.length∧wv L+c*18446744073709551616^Z.length=wv Z+wv X*w:=by
 refine fT (fn:=Tryz.f178) R4 ?_
 have hlX:=hXs.lenW
 subst hlX
 refine zN ?_
 repeat refine zR ?_
 refine zN ?_
 repeat refine zR ?_
 refine zN ?_
 repeat refine zR ?_
 refine zN ?_
 refine zV (α:=List Nat×Nat) (fun z=>[(0,.slice (some ⟨b,P.length,none⟩) Z.length cZ),(2,.int .u64 (w:Int)),(7,.int .u64 (z.2:Int)),(14,.slice aX X.length cX),(15,.int .i64 (X.length:Int)),(16,.int .i64 (z.1.length:Int))])
  (fun z h' n' W=>n=n'∧(∀x∈W,x=b)∧ExtT n b h h'∧(W=[]→h'=h)∧h' b=some (.row (u64s (P++((z.1++Z.drop z.1.length)++S))) e)∧z.1.length≤X.length∧WdD z.1∧z.2<18446744073709551616∧wv z.1+z.2*18446744073709551616^z.1.length=wv (Z.take z.1.length)+wv (X.take z.1.length)*w) (fun z=>X.length-z.1.length)
  ([],0) ⟨rfl,rfl,rfl,rfl,rfl,rfl,trivial⟩ ⟨rfl,fun x hx=>absurd hx List.not_mem_nil,ExtT.refl _ _ _,fun _=>rfl,hrow,Nat.zero_le _,WdD.nil,by show (0:Nat)<_;decide,by simp [wv,dv]⟩ (by show X.length-0<LL;unfold LL;omega) ?_
 rintro ⟨D,c⟩ t h1 _ W ⟨rfl,hW,hx1,hw0,hr1,hD,hDd,hc,hV⟩
 simp only at hr1 hD hDd hc hV
 refine zN ?_
 by_cases hDX:D.length=X.length
 ·repeat refine zR ?_
  refine zN ?_
  rw [za rfl]
  refine zN ?_
  repeat refine zR ?_
  refine zN ?_
  have hZd:Z.drop D.length=[]:=by rw [hDX,←hl,List.drop_length]
  rw [hZd,List.append_nil] at hr1
  rw [hDX,List.take_length,←hl,List.take_length] at hV
  have hL:∃(L:List Nat) (c':Nat),Value.int .u64 (c:Int)=.int .u64 (c':Int)∧c'<18446744073709551616∧RowW n h b e h1 n W (P++(L++S))∧WdD L∧L.length=Z.length∧wv L+c'*18446744073709551616^Z.length=wv Z+wv X*w:=⟨D,c,rfl,hc,⟨hW,rfl,hx1,hr1⟩,hDd,zo,hV⟩
  refine ⟨rfl,[.int .u64 (c:Int)],rfl,hL,fun hw=>?_⟩
  have hw:W=[]:=hw
  subst hw
  rw [hw0 rfl] at hL
  exact hL
 obtain ⟨v,hv⟩:∃x,X[D.length]?=some x:=⟨X[D.length]'zo,List.getElem?_eq_getElem zo⟩
 obtain ⟨z,hz⟩:∃x,Z[D.length]?=some x:=⟨Z[D.length]'zo,List.getElem?_eq_getElem zo⟩
 have hvl:=hX.get hv
 have hzl:=hZ.get hz
 have hlen:(D++Z.drop D.length).length=Z.length:=by rw [List.length_append,List.length_drop];omega
 have hZs:=jv (cap:=cZ) hb hr1 zo
 rw [hlen] at hZs
 have hvw:=rU hvl hw
 repeat refine zR ?_
 refine zN ?_
 rw [zc rfl]
 refine zN ?_
 repeat refine zR ?_
 refine z6 (f:=fun d:Nat=>Value.int .u64 (d:Int)) (j:=D.length) R7 (hXs.extT hx1 ho) R2 hv (fun _=>rfl) R4 fun _=>?_
 repeat refine zR ?_
 refine zN ?_
 repeat refine zR ?_
 refine yg _ R5 (qj k h1 n hvl hw) ?_
 rintro _ rfl
 obtain ⟨p,hp⟩:∃p,p=v*w:=⟨_,rfl⟩
 rw [←hp] at hvw ⊢
 obtain ⟨hi,hhi⟩:∃x,x=p/18446744073709551616:=⟨_,rfl⟩
 obtain ⟨lo,hlo⟩:∃x,x=p%18446744073709551616:=⟨_,rfl⟩
 rw [←hhi,←hlo]
 repeat refine zR ?_
 refine zN ?_
 repeat refine zR ?_
 refine uk (x:=lo) (y:=c) (c:=0) R5 zd ?_
 obtain ⟨s1,hs1⟩:∃x,x=(lo+c+0)%18446744073709551616:=⟨_,rfl⟩
 obtain ⟨c1,hc1⟩:∃x,x=(lo+c+0)/18446744073709551616:=⟨_,rfl⟩
 rw [←hs1,←hc1]
 repeat refine zR ?_
 refine zN ?_
 refine zM ?_
 refine zM ?_
 refine yA (a:=hi) (b:=c1) R6 zo ?_
 repeat refine zR ?_
 refine zN ?_
 repeat refine zR ?_
 refine z6 (f:=fun d:Nat=>Value.int .u64 (d:Int)) (j:=D.length) R7 hZs R2 (ut hz) (fun _=>rfl) R4 fun _=>?_
 repeat refine zR ?_
 refine uk (x:=z) (y:=s1) (c:=0) R5 zd ?_
 obtain ⟨s2,hs2⟩:∃x,x=(z+s1+0)%18446744073709551616:=⟨_,rfl⟩
 obtain ⟨c2,hc2⟩:∃x,x=(z+s1+0)/18446744073709551616:=⟨_,rfl⟩
 rw [←hs2,←hc2]
 repeat refine zR ?_
 refine yD (j:=D.length) (off:=P.length) (v:=.int .u64 (s2:Int)) R8 rfl ⟨zo,by rw [zP,List.length_append,List.length_append,hlen];omega⟩ hr1 hb (fun _=>rfl) R3 (fun _=>rfl) rfl fun _=>?_
 rw [yo,o4 _ hz]
 repeat refine zR ?_
 refine zN ?_
 refine zM ?_
 refine zM ?_
 refine yA (a:=hi+c1) (b:=c2) R6 zo ?_
 repeat refine zR ?_
 refine zN ?_
 repeat refine zR ?_
 refine zN ?_
 refine goOn (D++[s2],hi+c1+c2) (by show X.length-(D++[s2]).length<X.length-D.length;rw [List.length_append,List.length_singleton];omega) ⟨rfl,rfl,rfl,rfl,rfl,by show Value.int .i64 _=Value.int .i64 _;rw [List.length_append];rfl,trivial⟩ ⟨rfl,fun x hx=>by
  rcases List.mem_cons.1 hx with rfl|hx
  ·rfl
  ·exact hW x hx,fun y hy hyb=>(zh hyb).trans (hx1 y hy hyb),fun h=>(by cases h),ze _ _ _,by show (D++[s2]).length≤_;rw [List.length_append,List.length_singleton];omega,WdD.snoc hDd zo,by show hi+c1+c2<_;omega,?_⟩
 simp only
 rw [List.length_append,List.length_singleton,y7,zO hv,zO hz,Nat.pow_succ]
 exact jS hV (by rw [←hp];omega)
theorem gP {P X:List Nat}{w c:Nat}(hL:L.length=Z.length)(hV:wv L+c*18446744073709551616^Z.length=wv Z+wv X*w):wv (P++(L++[c]))=wv (P++Z)+wv X*(18446744073709551616^P.length*w):=by
 rw [uL,uL P Z,y7,hL,Nat.mul_comm _ c,hV,Nat.mul_add,Nat.mul_left_comm]
 omega
theorem kw (k:Nat){h:HF}{n:Nat}(hA:Sl h n 1 (.slice a1 l1 c1) (u64s A))(hC:Sl h n 1 (.slice a2 l2 c2) (u64s C))(nA:NW A)(nC:NW C)(hb:A.length<100000000∧C.length<100000000)(h40:A.length<40∨C.length<40):
  CF (cal (k+3)) 138 [.slice a1 l1 c1,.slice a2 l2 c2] h n fun v h' n' w=>∃L,ResW n h v h' n' w L∧wv L=wv A*wv C∧zf4 n v (.slice a1 l1 c1) (.slice a2 l2 c2):=by
 refine zr (fn:=Tryz.f138) R4 ?_
 have e1:=hA.lenW
 have e2:=hC.lenW
 subst e1 e2
 refine zN ?_
 repeat refine zR ?_
 refine zN ?_
 refine zM ?_
 refine st_I (ik:=.i64) (a:=(A.length:Int)) R5 ?_
 refine zM ?_
 refine st_I (ik:=.i64) (a:=(C.length:Int)) R5 ?_
 refine pE R6 ?_
 simp only [zZ,yc,zk,yd]
 refine yI (α:=(Option Addr×Nat×List Nat)×(Option Addr×Nat×List Nat)) (fun z=>[(0,.slice z.1.1 z.1.2.2.length z.1.2.1),(1,.slice z.2.1 z.2.2.2.length z.2.2.1)]) (fun z h' n' w=>h=h'∧n=n'∧w=[]∧Sl h n 1 (.slice z.1.1 z.1.2.2.length z.1.2.1) (u64s z.1.2.2)∧Sl h n 1 (.slice z.2.1 z.2.2.2.length z.2.2.1) (u64s z.2.2.2)∧NW z.1.2.2∧NW z.2.2.2∧z.2.2.2.length≤z.1.2.2.length∧z.2.2.2.length<40∧z.1.2.2.length<100000000∧wv z.1.2.2*wv z.2.2.2=wv A*wv C∧(Value.slice z.1.1 z.1.2.2.length z.1.2.1=.slice a1 A.length c1∨Value.slice z.1.1 z.1.2.2.length z.1.2.1=.slice a2 C.length c2)) ?_ ?_
 ·by_cases hlt:A.length<C.length
  ·rw [zc (by show Value.bool _=_;rw [decide_eq_true zo])]
   refine zN ?_
   repeat refine zR ?_
   refine zN ?_
   exact zS ((a2,c2,C),(a1,c1,A)) ⟨rfl,rfl,trivial⟩ ⟨rfl,rfl,rfl,hC,hA,nC,nA,by show A.length≤C.length;omega,by show A.length<40;omega,hb.2,Nat.mul_comm _ _,.inr rfl⟩
  rw [za (by show Value.bool _=_;rw [decide_eq_false zo])]
  refine zN ?_
  exact zS ((a1,c1,A),(a2,c2,C)) ⟨rfl,rfl,trivial⟩ ⟨rfl,rfl,rfl,hA,hC,nA,nC,by show C.length≤A.length;omega,by show C.length<40;omega,hb.1,rfl,.inl rfl⟩
 rintro ⟨⟨a,c,X⟩,⟨a',c',Y⟩⟩ t _ _ _ ⟨rfl,rfl,rfl,hX,hY,nX,nY,hYX,hY40,hXl,hprod,hv⟩
 simp only at hX hY nX nY hYX hY40 hXl hprod hv
 rw [←hprod]
 clear hprod h40 hb hA hC nA nC
 refine zN ?_
 refine zM ?_
 refine st_I (ik:=.i64) (a:=(X.length:Int)) R5 ?_
 refine uG (a:=(X.length:Int)) (b:=1) R6 zo ?_
 refine st_I (ik:=.i64) (a:=((X.length:Int)+1).tdiv 2) ⟨rfl,rfl,rfl,rfl,(by show some (Value.int .i64 (IntKind.wrap .i64 _))=_;rw [wA (by have:=Int.tdiv_nonneg (a:=(X.length:Int)+1) (b:=2) zo zo;have:=Int.tdiv_le_self (a:=(X.length:Int)+1) (b:=2) zo;omega)])⟩ ?_
 repeat refine zR ?_
 refine zN ?_
 by_cases hY0:Y.length=0
 ·repeat refine zR ?_
  refine zN ?_
  rw [zc rfl]
  refine zN ?_
  repeat refine zR ?_
  refine zN ?_
  exact retH _ ⟨rfl,(zi rfl),rfl⟩ ⟨[],⟨rfl,Nat.le_refl _,Ext.refl _ _,.nil (.inl rfl),NW.nil⟩,by rw [List.length_eq_zero_iff.1 hY0];rfl,.inl trivial⟩
 repeat refine zR ?_
 refine zN ?_
 rw [za rfl]
 simp only [zZ,yc,zk,yd]
 refine yI (α:=Bool) (fun z=>[(0,.slice a X.length c),(1,.slice a' Y.length c'),(32,.bool z)]) (fun z h' n' w=>h=h'∧n=n'∧w=[]∧(z=true→wv Y=1)) ?_ ?_
 ·by_cases hY1:Y.length=1
  ·obtain ⟨y,rfl⟩:=List.length_eq_one_iff.1 hY1
   rw [show [y].length=1 from rfl] at hY ⊢
   refine zN ?_
   repeat refine zR ?_
   refine z6 (f:=fun d:Nat=>Value.int .u64 (d:Int)) (l:=[y]) (j:=0) R7 hY ⟨rfl,(by simp)⟩ rfl (fun _=>rfl) R4 fun _=>?_
   by_cases hy:y=1
   ·repeat refine zR ?_
    refine zN ?_
    exact zS true ⟨rfl,rfl,rfl,trivial⟩ ⟨rfl,rfl,rfl,fun _=>by rw [qw,hy]⟩
   repeat refine zR ?_
   refine zN ?_
   exact zS false ⟨rfl,rfl,rfl,trivial⟩ ⟨rfl,rfl,rfl,fun h=>by cases h⟩
  refine zN ?_
  repeat refine zR ?_
  refine zN ?_
  exact zS false ⟨rfl,rfl,rfl,trivial⟩ ⟨rfl,rfl,rfl,fun h=>by cases h⟩
 rintro z t _ _ _ ⟨rfl,rfl,rfl,hz⟩
 cases z with
 |true=>
  rw [zc rfl]
  refine zN ?_
  repeat refine zR ?_
  refine zN ?_
  exact retH _ ⟨rfl,(zi rfl),rfl⟩ ⟨X,⟨rfl,Nat.le_refl _,Ext.refl _ _,hX,nX⟩,by rw [hz rfl,Nat.mul_one],.inr hv⟩
 |false=>
 rw [za rfl]
 clear hz
 refine zN ?_
 repeat refine zR ?_
 refine zN ?_
 rw [zc rfl]
 refine zN ?_
 repeat refine zR ?_
 refine xD (len:=X.length+Y.length) (cap:=X.length+Y.length) R9 zo ?_
 rw [show zl (Value.int .u64 0)=[Value.int .u64 0] from rfl,wq]
 generalize hh:upd h (3*n+2) _=h1
 have hr1:∃e,h1 (3*n+2)=some (.row (u64s (List.replicate X.length 0++List.replicate Y.length 0)) e):=⟨_,by rw [←hh,ze,List.replicate_append_replicate]⟩
 obtain ⟨e,hr1⟩:=hr1
 have hx1:Ext n h h1:=by rw [←hh];exact Ext.upd zo
 clear hh
 repeat refine zR ?_
 refine zN ?_
 repeat refine zR ?_
 refine zN ?_
 refine zV (α:=Nat×List Nat) (fun z=>[(0,.slice a X.length c),(6,.slice (some ⟨3*n+2,0,none⟩) (X.length+Y.length) (X.length+Y.length)),(53,.slice a' Y.length c'),(54,.int .i64 (Y.length:Int)),(55,.int .i64 (z.1:Int))])
  (fun z h' n' w=>n'=n+1∧w=[]∧Ext n h h'∧h' (3*n+2)=some (.row (u64s (z.2++List.replicate (Y.length-z.1) 0)) e)∧z.2.length=X.length+z.1∧WdD z.2∧z.1≤Y.length∧wv z.2=wv X*wv (Y.take z.1)) (fun z=>Y.length-z.1)
  (0,List.replicate X.length 0) ⟨rfl,rfl,rfl,rfl,rfl,trivial⟩ ⟨rfl,rfl,hx1,hr1,by simp,WdD.zeros _,Nat.zero_le _,by simp [wv,dv,uW]⟩ (by show Y.length-0<LL;unfold LL;omega) ?_
 clear hr1 hx1
 rintro ⟨i,D⟩ t h1 _ _ ⟨rfl,rfl,hx1,hr1,hDl,hDd,hi,hV⟩
 simp only at hr1 hDl hDd hi hV
 refine zN ?_
 by_cases hiY:i=Y.length
 ·subst hiY
  rw [Nat.sub_self,List.replicate_zero,List.append_nil] at hr1
  rw [List.take_length] at hV
  repeat refine zR ?_
  refine zN ?_
  rw [za rfl]
  refine zN ?_
  repeat refine zR ?_
  have htr:=xV (k+1) (h:=h1) (n:=n+1) (a:=some ⟨3*n+2,0,none⟩) (len:=X.length+Y.length) (cap:=X.length+Y.length) (l:=D) zo (fun _ e=>by injection e with e;rw [←e]) (xJ zo hr1 hDl)
  refine zu _ R5 htr ?_
  rintro _ _ _ _ ⟨rfl,rfl,rfl,rfl,hs⟩
  repeat refine zR ?_
  refine zN ?_
  obtain ⟨t1,t2⟩:=wN hDd
  exact retH _ ⟨rfl,(zi rfl),rfl⟩ ⟨_,⟨rfl,Nat.le_succ n,hx1,hs,t1⟩,by rw [t2,hV],.inl (by show 3*n≤3*n+2;omega)⟩
 obtain ⟨w,hw⟩:∃x,Y[i]?=some x:=⟨Y[i]'zo,List.getElem?_eq_getElem zo⟩
 have hwl:=nY.1.get hw
 obtain ⟨P,Z,hPZ,hP,hZ⟩:∃P Z,D=P++Z∧P.length=i∧Z.length=X.length:=⟨D.take i,D.drop i,(List.take_append_drop i D).symm,by rw [List.length_take];omega,by rw [List.length_drop];omega⟩
 subst hPZ hP
 rw [List.append_assoc] at hr1
 have hX1:=hX.ext hx1 (Nat.le_succ n)
 repeat refine zR ?_
 refine zN ?_
 rw [zc rfl]
 refine zN ?_
 repeat refine zR ?_
 refine z6 (f:=fun d:Nat=>Value.int .u64 (d:Int)) (j:=P.length) R7 (hY.ext hx1 (Nat.le_succ n)) R2 hw (fun _=>rfl) R4 fun _=>?_
 repeat refine zR ?_
 refine zN ?_
 repeat refine zR ?_
 refine qI P.length (P.length+X.length) R9 rfl rfl zo ?_
 rw [show 0+P.length*1=P.length from zo,show P.length+X.length-P.length=Z.length from zo]
 repeat refine zR ?_
 refine zu _ R5 (fQ k (n:=n+1) (b:=3*n+2) zo hr1 zo (fun d hd=>hDd d (by simp [hd])) hX1 nX.1 (hX.below.off zo) hZ zo hwl) ?_
 rintro _ h2 _ w2 ⟨L,cc,rfl,hcc,⟨hw2,rfl,hx2,hr2⟩,hLd,hLl,hLv⟩
 try simp only [sX]
 rw [yS (w:=[]) fun y hy=>by rw [hw2 y hy];show 3*n≤3*n+2;omega]
 obtain ⟨m,hm⟩:∃m,Y.length-P.length=m+1:=⟨Y.length-P.length-1,zo⟩
 rw [hm,←List.append_assoc] at hr2
 have hPL:(P++L).length=P.length+X.length:=by rw [List.length_append,hLl,hZ]
 refine y5 (j:=P.length+X.length) (v:=.int .u64 (cc:Int)) R8 rfl ⟨zo,by rw [zP,List.length_append,hPL,List.length_replicate];omega⟩ hr2 (by show 3*n≤3*n+2;omega) (fun _=>rfl) R3 (fun _=>rfl) rfl fun _=>?_
 rw [yo,←hPL,sj]
 repeat refine zR ?_
 refine zN ?_
 repeat refine zR ?_
 refine zN ?_
 refine goOn (P.length+1,P++(L++[cc])) (by show Y.length-(P.length+1)<Y.length-P.length;omega) ⟨rfl,rfl,rfl,rfl,rfl,trivial⟩ ⟨rfl,rfl,fun b hb=>(zh zo).trans ((hx2 b zo zo).trans (hx1 b hb)),?_,?_,?_,by show P.length+1≤_;omega,?_⟩
 ·refine (ze _ _ _).trans ?_
  simp only
  rw [show Y.length-(P.length+1)=m from zo,List.append_assoc P L]
 ·simp only
  rw [List.length_append,List.length_append,hLl,hZ,List.length_singleton]
  omega
 ·exact WdD.append (fun d hd=>hDd d (by simp [hd])) (WdD.snoc hLd hcc)
 simp only
 rw [gP hLl hLv,hV,zO hw,Nat.mul_add]
end
section
theorem dY {P V U W z v w c s c':Nat}(hV:V+W*w=U+c*P)(hs:s+v*w+c=z+18446744073709551616*c'):V+P*s+(W+P*v)*w=U+P*z+c'*(P*18446744073709551616):=by
 have:P*(s+v*w+c)=P*(z+18446744073709551616*c'):=by rw [hs]
 rw [Nat.mul_add,Nat.mul_add,Nat.mul_add,←Nat.mul_assoc P 18446744073709551616] at this
 rw [Nat.mul_comm c' (P*18446744073709551616),Nat.add_mul,Nat.mul_assoc P v w]
 rw [Nat.mul_comm c P] at hV
 omega
theorem gm (k:Nat){h:HF}{n b cZ cX l:Nat}{aX:Option Addr}{P Z S X:List Nat}{e:TypeId}{w:Nat}(hb:b<3*n)(hrow:h b=some (.row (u64s (P++(Z++S))) e))(hcZ:Z.length≤cZ)(hZ:WdD Z)(hXs:Sl h n 1 (.slice aX l cX) (u64s X))(hX:WdD X)(ho:Off b (.slice aX l cX))(hl:Z.length=X.length)(hbig:X.length<1000000000)(hw:w<18446744073709551616):
  CF (cal (k+2)) 221 [.slice (some ⟨b,P.length,none⟩) Z.length cZ,.slice aX l cX,.int .u64 (w:Int)] h n fun v h' n' W=>∃(L:List Nat) (c:Nat),v=.int .u64 (c:Int)∧c<18446744073709551616∧RowW n h b e h' n' W (P++(L++S))∧WdD L∧L.length=Z.length∧wv L+wv X*w=wv Z+c*18446744073709551616^Z.length:=by
 refine fT (fn:=Tryz.f221) R4 ?_
 have hlX:=hXs.lenW
 subst hlX
 refine zN ?_
 repeat refine zR ?_
 refine zN ?_
 repeat refine zR ?_
 refine zN ?_
 repeat refine zR ?_
 refine zN ?_
 refine zV (α:=List Nat×Nat) (fun z=>[(0,.slice (some ⟨b,P.length,none⟩) Z.length cZ),(2,.int .u64 (w:Int)),(7,.int .u64 (z.2:Int)),(14,.slice aX X.length cX),(15,.int .i64 (X.length:Int)),(16,.int .i64 (z.1.length:Int))])
  (fun z h' n' W=>n=n'∧(∀x∈W,x=b)∧ExtT n b h h'∧(W=[]→h'=h)∧h' b=some (.row (u64s (P++((z.1++Z.drop z.1.length)++S))) e)∧z.1.length≤X.length∧WdD z.1∧z.2<18446744073709551616∧wv z.1+wv (X.take z.1.length)*w=wv (Z.take z.1.length)+z.2*18446744073709551616^z.1.length) (fun z=>X.length-z.1.length)
  ([],0) ⟨rfl,rfl,rfl,rfl,rfl,rfl,trivial⟩ ⟨rfl,fun x hx=>absurd hx List.not_mem_nil,ExtT.refl _ _ _,fun _=>rfl,hrow,Nat.zero_le _,WdD.nil,by show (0:Nat)<_;decide,by simp [wv,dv]⟩ (by show X.length-0<LL;unfold LL;omega) ?_
 rintro ⟨D,c⟩ t h1 _ W ⟨rfl,hW,hx1,hw0,hr1,hD,hDd,hc,hV⟩
 simp only at hr1 hD hDd hc hV
 refine zN ?_
 by_cases hDX:D.length=X.length
 ·repeat refine zR ?_
  refine zN ?_
  rw [za rfl]
  refine zN ?_
  repeat refine zR ?_
  refine zN ?_
  have hZd:Z.drop D.length=[]:=by rw [hDX,←hl,List.drop_length]
  rw [hZd,List.append_nil] at hr1
  rw [hDX,List.take_length,←hl,List.take_length] at hV
  have hL:∃(L:List Nat) (c':Nat),Value.int .u64 (c:Int)=.int .u64 (c':Int)∧c'<18446744073709551616∧RowW n h b e h1 n W (P++(L++S))∧WdD L∧L.length=Z.length∧wv L+wv X*w=wv Z+c'*18446744073709551616^Z.length:=⟨D,c,rfl,hc,⟨hW,rfl,hx1,hr1⟩,hDd,zo,hV⟩
  refine ⟨rfl,[.int .u64 (c:Int)],rfl,hL,fun hw=>?_⟩
  have hw:W=[]:=hw
  subst hw
  rw [hw0 rfl] at hL
  exact hL
 obtain ⟨v,hv⟩:∃x,X[D.length]?=some x:=⟨X[D.length]'zo,List.getElem?_eq_getElem zo⟩
 obtain ⟨z,hz⟩:∃x,Z[D.length]?=some x:=⟨Z[D.length]'zo,List.getElem?_eq_getElem zo⟩
 have hvl:=hX.get hv
 have hzl:=hZ.get hz
 have hlen:(D++Z.drop D.length).length=Z.length:=by rw [List.length_append,List.length_drop];omega
 have hZs:=jv (cap:=cZ) hb hr1 zo
 rw [hlen] at hZs
 have hvw:=rU hvl hw
 repeat refine zR ?_
 refine zN ?_
 rw [zc rfl]
 refine zN ?_
 repeat refine zR ?_
 refine z6 (f:=fun d:Nat=>Value.int .u64 (d:Int)) (j:=D.length) R7 (hXs.extT hx1 ho) R2 hv (fun _=>rfl) R4 fun _=>?_
 repeat refine zR ?_
 refine zN ?_
 repeat refine zR ?_
 refine yg _ R5 (qj k h1 n hvl hw) ?_
 rintro _ rfl
 obtain ⟨p,hp⟩:∃p,p=v*w:=⟨_,rfl⟩
 rw [←hp] at hvw ⊢
 obtain ⟨hi,hhi⟩:∃x,x=p/18446744073709551616:=⟨_,rfl⟩
 obtain ⟨lo,hlo⟩:∃x,x=p%18446744073709551616:=⟨_,rfl⟩
 rw [←hhi,←hlo]
 repeat refine zR ?_
 refine zN ?_
 repeat refine zR ?_
 refine uk (x:=lo) (y:=c) (c:=0) R5 zd ?_
 obtain ⟨s1,hs1⟩:∃x,x=(lo+c+0)%18446744073709551616:=⟨_,rfl⟩
 obtain ⟨c1,hc1⟩:∃x,x=(lo+c+0)/18446744073709551616:=⟨_,rfl⟩
 rw [←hs1,←hc1]
 repeat refine zR ?_
 refine zN ?_
 refine zM ?_
 refine zM ?_
 refine yA (a:=hi) (b:=c1) R6 zo ?_
 repeat refine zR ?_
 refine zN ?_
 repeat refine zR ?_
 refine z6 (f:=fun d:Nat=>Value.int .u64 (d:Int)) (j:=D.length) R7 hZs R2 (ut hz) (fun _=>rfl) R4 fun _=>?_
 repeat refine zR ?_
 refine sd (x:=z) (y:=s1) (c:=0) R5 zd ?_
 obtain ⟨s2,hs2⟩:∃x,x=(z+18446744073709551616-s1-0)%18446744073709551616:=⟨_,rfl⟩
 obtain ⟨c2,hc2⟩:∃x,x=(if s1+0≤z then 0 else 1):=⟨_,rfl⟩
 rw [←hs2,←hc2]
 have hs1l:s1<18446744073709551616:=zo
 have hsc:=vM (c:=0) hzl hs1l zd
 rw [←hs2,←hc2] at hsc
 have hc2l:c2≤1:=by rw [hc2];split<;>decide
 have hs2l:s2<18446744073709551616:=by rw [hs2];exact Nat.mod_lt _ zd
 clear hs2 hc2
 repeat refine zR ?_
 refine yD (j:=D.length) (off:=P.length) (v:=.int .u64 (s2:Int)) R8 rfl ⟨zo,by rw [zP,List.length_append,List.length_append,hlen];omega⟩ hr1 hb (fun _=>rfl) R3 (fun _=>rfl) rfl fun _=>?_
 rw [yo,o4 _ hz]
 repeat refine zR ?_
 refine zN ?_
 refine zM ?_
 refine zM ?_
 refine yA (a:=hi+c1) (b:=c2) R6 zo ?_
 repeat refine zR ?_
 refine zN ?_
 repeat refine zR ?_
 refine zN ?_
 refine goOn (D++[s2],hi+c1+c2) (by show X.length-(D++[s2]).length<X.length-D.length;rw [List.length_append,List.length_singleton];omega) ⟨rfl,rfl,rfl,rfl,rfl,by show Value.int .i64 _=Value.int .i64 _;rw [List.length_append];rfl,trivial⟩ ⟨rfl,fun x hx=>by
  rcases List.mem_cons.1 hx with rfl|hx
  ·rfl
  ·exact hW x hx,fun y hy hyb=>(zh hyb).trans (hx1 y hy hyb),fun h=>(by cases h),ze _ _ _,by show (D++[s2]).length≤_;rw [List.length_append,List.length_singleton];omega,WdD.snoc hDd zo,by show hi+c1+c2<_;omega,?_⟩
 simp only
 rw [List.length_append,List.length_singleton,y7,zO hv,zO hz,Nat.pow_succ]
 exact dY hV (by rw [←hp];omega)
theorem ze3 {B v1 v2 vr w1 w2 wr P:Nat}(hB:2≤B)(hn:B≤2*v1)(hv2:v2<B)(hvr:vr<P)(hw2:w2<B):B-1≤(((v1*B+w1)*B+w2)*P+wr)/((v1*B+v2)*P+vr)+1:=by
 have hP:0<P:=zo
 have hV:0<(v1*B+v2)*P+vr:=by
  have:1*1≤v1*B:=Nat.mul_le_mul zo zo
  have:1*1≤(v1*B+v2)*P:=Nat.mul_le_mul zo hP
  omega
 obtain ⟨D,rfl⟩:∃D,B=D+2:=⟨B-2,zo⟩
 have key:D≤(((v1*(D+2)+w1)*(D+2)+w2)*P+wr)/((v1*(D+2)+v2)*P+vr):=by
  rw [Nat.le_div_iff_mul_le hV]
  have h1:(v1*(D+2)+v2)*P+vr≤(v1*(D+2)+v2+1)*P:=by rw [Nat.add_mul _ 1];omega
  refine Nat.le_trans (Nat.mul_le_mul_left D h1) ?_
  rw [←Nat.mul_assoc]
  have h2:D*(v1*(D+2)+v2+1)≤v1*(D+2)*(D+2):=by
   have e1:D*(v1*(D+2)+v2+1)=D*(v1*(D+2))+D*(v2+1):=by rw [Nat.add_assoc,Nat.mul_add]
   have e2:v1*(D+2)*(D+2)=v1*(D+2)*D+v1*(D+2)*2:=Nat.mul_add _ _ _
   have e3:D*(v2+1)≤D*(D+2):=Nat.mul_le_mul_left _ hv2
   have e4:(D+2)*(D+2)≤2*v1*(D+2):=Nat.mul_le_mul_right _ hn
   have e5:D*(D+2)≤(D+2)*(D+2):=Nat.mul_le_mul_right _ zo
   have e6:2*v1*(D+2)=v1*(D+2)*2:=by rw [Nat.mul_assoc,Nat.mul_comm 2]
   rw [e1,e2,Nat.mul_comm D (v1*(D+2))]
   omega
  have h3:=Nat.mul_le_mul_right P h2
  have h4:v1*(D+2)*(D+2)*P≤((v1*(D+2)+w1)*(D+2)+w2)*P:=Nat.mul_le_mul_right P (by rw [Nat.add_mul];omega)
  omega
 omega
structure WinD (W V:List Nat)(m:Nat):Prop where
 wl:W.length=m+3
 vl:V.length=m+2
 wd:WdD W
 vd:WdD V
 top:∀x,V[m+1]?=some x→9223372036854775808≤x
 lt:wv W<18446744073709551616*wv V
theorem kX (k:Nat){h:HF}{n:Nat}{a1 a2:Option Addr}{l1 c1 l2 c2 m:Nat}{W V:List Nat}(hW:Sl h n 1 (.slice a1 l1 c1) (u64s W))(hV:Sl h n 1 (.slice a2 l2 c2) (u64s V))(hD:WinD W V m)(hb:m<1000000000):
  VF (cal (k+4)) 220 [.slice a1 l1 c1,.slice a2 l2 c2] h n fun v=>∃q:Nat,v=.int .u64 (q:Int)∧q<18446744073709551616∧wv W/wv V≤q∧q≤wv W/wv V+1:=by
 refine zA (fn:=Tryz.f220) R4 ?_
 have e1:=hW.lenW
 have e2:=hV.lenW
 subst e1 e2
 obtain ⟨wl,vl,wd,vd,htop,hlt⟩:=hD
 rw [wl] at hW ⊢
 rw [vl] at hV ⊢
 obtain ⟨v1,hv1⟩:∃x,V[m+1]?=some x:=⟨V[m+1]'zo,List.getElem?_eq_getElem zo⟩
 obtain ⟨v2,hv2⟩:∃x,V[m]?=some x:=⟨V[m]'zo,List.getElem?_eq_getElem zo⟩
 obtain ⟨w0,hw0⟩:∃x,W[m+2]?=some x:=⟨W[m+2]'zo,List.getElem?_eq_getElem zo⟩
 obtain ⟨w1,hw1⟩:∃x,W[m+1]?=some x:=⟨W[m+1]'zo,List.getElem?_eq_getElem zo⟩
 obtain ⟨w2,hw2⟩:∃x,W[m]?=some x:=⟨W[m]'zo,List.getElem?_eq_getElem zo⟩
 have hn:=htop v1 hv1
 have lv1:=vd.get hv1
 have lv2:=vd.get hv2
 have lw0:=wd.get hw0
 have lw1:=wd.get hw1
 have lw2:=wd.get hw2
 have eW:wv W=((w0*18446744073709551616+w1)*18446744073709551616+w2)*18446744073709551616^m+wv (W.take m):=iA wl hw0 hw1 hw2
 have eV:wv V=(v1*18446744073709551616+v2)*18446744073709551616^m+wv (V.take m):=bf vl hv1 hv2
 have hwr:wv (W.take m)<18446744073709551616^m:=by
  have:=wQ (wd.take m)
  rw [List.length_take,Nat.min_eq_left zo] at this
  exact this
 have hvr:wv (V.take m)<18446744073709551616^m:=by
  have:=wQ (vd.take m)
  rw [List.length_take,Nat.min_eq_left zo] at this
  exact this
 rw [eW,eV] at hlt ⊢
 generalize 18446744073709551616^m=P at*
 generalize wv (W.take m)=wr at*
 generalize wv (V.take m)=vr at*
 clear eW eV
 have htv:=zc6 hvr lv2 hlt
 obtain ⟨top,ht⟩:∃t,t=w0*18446744073709551616+w1:=⟨_,rfl⟩
 rw [←ht] at hlt htv ⊢
 have hqlt:((top*18446744073709551616+w2)*P+wr)/((v1*18446744073709551616+v2)*P+vr)<18446744073709551616:=by
  rw [Nat.div_lt_iff_lt_mul zo]
  exact hlt
 refine zN ?_
 repeat refine zR ?_
 refine zN ?_
 repeat refine zR ?_
 refine zN ?_
 rw [xf rfl]
 repeat refine zR ?_
 refine z6 (f:=fun d:Nat=>Value.int .u64 (d:Int)) (j:=m+1) R7 hV ⟨rfl,zo⟩ hv1 (fun _=>rfl) R4 fun _=>?_
 repeat refine zR ?_
 refine z6 (f:=fun d:Nat=>Value.int .u64 (d:Int)) (j:=m) R7 hV ⟨rfl,zo⟩ hv2 (fun _=>rfl) R4 fun _=>?_
 repeat refine zR ?_
 refine zN ?_
 repeat refine zR ?_
 refine z6 (f:=fun d:Nat=>Value.int .u64 (d:Int)) (j:=m+2) R7 hW ⟨rfl,zo⟩ hw0 (fun _=>rfl) R4 fun _=>?_
 by_cases hfull:v1≤w0
 ·repeat refine zR ?_
  refine zN ?_
  rw [zc rfl]
  refine zN ?_
  repeat refine zR ?_
  refine zN ?_
  have h0:w0=v1:=zo
  subst h0
  refine retF _ rfl (zi rfl) R2 ⟨18446744073709551615,rfl,by decide,zo,?_⟩
  rw [ht]
  exact ze3 (B:=18446744073709551616) zd zo lv2 hvr lw2
 repeat refine zR ?_
 refine zN ?_
 rw [za rfl]
 refine zN ?_
 refine zj [0,0,3,7,0,0,32,112,240,0,1023,2047,4095,4095,8191,32767] rfl ?_
 obtain ⟨b1,o1,x1,cs1,rfl,hb1,hx1,hcs1,hcap1,hle1,hc1⟩:=hW.inv zo
 have hcell:∀{j x:Nat},W[j]?=some x→cs1[o1+j]?=some (.int .u64 (x:Int)):=fun hj=>uD hc1 (by rw [u64s,List.getElem?_map,hj];rfl)
 repeat refine zE ?_
 refine iB R8 zo ?_
 refine yf R6 (z8 rfl hx1 (v:=.int .u64 (w0:Int)) ⟨hcs1,(by rw [←hcell hw0];congr 1;omega)⟩) R2 ?_
 repeat refine zE ?_
 refine iB R8 zo ?_
 refine yf R6 (z8 rfl hx1 (v:=.int .u64 (w1:Int)) ⟨hcs1,(by rw [←hcell hw1];congr 1;omega)⟩) R2 ?_
 repeat refine zE ?_
 refine bi _ R7 (qn k h n (show w0<v1 by omega) lw1 lv1) ?_
 rintro _ rfl
 rw [←ht]
 repeat refine zE ?_
 refine zN ?_
 have hstart:=ql (B:=18446744073709551616) (v1:=v1) (v2:=v2) (vr:=vr) (top:=top) (w2:=w2) (wr:=wr) (P:=P) zo lw2 hwr
 have hdm:top/v1*v1+top%v1=top:=by rw [Nat.mul_comm];exact Nat.div_add_mod _ _
 have hd0:top/v1<18446744073709551616:=by
  rw [Nat.div_lt_iff_lt_mul zo,ht]
  have:(w0+1)*18446744073709551616≤v1*18446744073709551616:=Nat.mul_le_mul_right _ zo
  rw [Nat.mul_comm 18446744073709551616]
  omega
 refine zV (α:=Nat×Nat) (fun z=>[(0,.slice (some ⟨b1,o1,none⟩) (m+3) c1),(5,.int .i64 ((m+2:Nat):Int)),(6,.int .u64 (v1:Int)),(7,.int .u64 (v2:Int)),(8,.int .u64 (z.1:Int)),(9,.int .u64 (z.2:Int))])
  (fun z h' n' w=>h=h'∧n=n'∧w=[]∧z.1<18446744073709551616∧z.2<18446744073709551616∧z.1*v1+z.2=top∧((top*18446744073709551616+w2)*P+wr)/((v1*18446744073709551616+v2)*P+vr)≤z.1) (fun z=>2-z.2/9223372036854775808)
  (top/v1,top%v1) ⟨rfl,rfl,rfl,rfl,rfl,rfl,trivial⟩ ⟨rfl,rfl,rfl,hd0,Nat.lt_trans (Nat.mod_lt _ zo) lv1,hdm,hstart⟩ (by show 2-top%v1/9223372036854775808<LL;unfold LL;omega) ?_
 rintro ⟨q,r⟩ t _ _ _ ⟨rfl,rfl,rfl,hq,hr,hqr,hle⟩
 simp only at hq hr hqr hle
 refine zN ?_
 refine zM ?_
 refine zM ?_
 refine yg _ R5 (qj (k+2) h n hq lv2) ?_
 rintro _ rfl
 obtain ⟨p,hp⟩:∃p,p=q*v2:=⟨_,rfl⟩
 have hpl:=rU hq lv2
 rw [←hp] at hpl ⊢
 have fin:∀t':TF,t' 4=.int .u64 (q:Int)→p≤r*18446744073709551616+w2→∃q':Nat,Value.int .u64 (q:Int)=.int .u64 (q':Int)∧q'<18446744073709551616∧((top*18446744073709551616+w2)*P+wr)/((v1*18446744073709551616+v2)*P+vr)≤q'∧q'≤((top*18446744073709551616+w2)*P+wr)/((v1*18446744073709551616+v2)*P+vr)+1:=fun _ _ hc=>
  ⟨q,rfl,hq,hle,cg zo zd hvr hqr (by rw [←hp];exact hc) hq⟩
 obtain ⟨hi,hhi⟩:∃x,x=p/18446744073709551616:=⟨_,rfl⟩
 obtain ⟨lo,hlo⟩:∃x,x=p%18446744073709551616:=⟨_,rfl⟩
 rw [←hhi,←hlo]
 have hpe:p=hi*18446744073709551616+lo:=zo
 repeat refine zR ?_
 simp only [zZ,yc,zk,yd]
 by_cases hc1:hi<r
 ·refine zN ?_
  repeat refine zR ?_
  refine zN ?_
  rw [zc rfl]
  refine zN ?_
  repeat refine zR ?_
  refine zN ?_
  exact retF _ rfl (zi rfl) R2 (fin (fun _=>.int .u64 (q:Int)) rfl (by
   have:(hi+1)*18446744073709551616≤r*18446744073709551616:=Nat.mul_le_mul_right _ hc1
   omega))
 by_cases hc2:hi=r∧lo≤w2
 ·obtain ⟨rfl,hc2⟩:=hc2
  refine zN ?_
  repeat refine zR ?_
  refine tC R8 zo ?_
  refine zC R6 hx1 (v:=.int .u64 (w2:Int)) ⟨hcs1,(by rw [←hcell hw2];congr 1;omega)⟩ ?_
  repeat refine zR ?_
  refine zN ?_
  rw [zc rfl]
  refine zN ?_
  repeat refine zR ?_
  refine zN ?_
  exact retF _ rfl (zi rfl) R2 (fin (fun _=>.int .u64 (q:Int)) rfl zo)
 have hgt:r*18446744073709551616+w2<q*v2:=by
  rw [←hp,hpe]
  rcases Nat.lt_or_ge r hi with h'|h'
  ·have:(r+1)*18446744073709551616≤hi*18446744073709551616:=Nat.mul_le_mul_right _ h'
   omega
  have:hi=r:=zo
  subst this
  omega
 have htest:=ni (vr:=vr) lw2 hwr hqr hgt
 have hq1:1≤q:=Nat.lt_of_le_of_lt (Nat.zero_le _) htest
 refine yI (α:=Unit) (fun _=>[(0,.slice (some ⟨b1,o1,none⟩) (m+3) c1),(5,.int .i64 ((m+2:Nat):Int)),(6,.int .u64 (v1:Int)),(7,.int .u64 (v2:Int)),(8,.int .u64 (q:Int)),(9,.int .u64 (r:Int)),(66,.bool false)]) (fun _ h' n' w=>h=h'∧n=n'∧w=[]) ?_ ?_
 ·by_cases hc3:hi=r
  ·subst hc3
   refine zN ?_
   repeat refine zR ?_
   refine tC R8 zo ?_
   refine zC R6 hx1 (v:=.int .u64 (w2:Int)) ⟨hcs1,(by rw [←hcell hw2];congr 1;omega)⟩ ?_
   repeat refine zR ?_
   refine zN ?_
   exact zS () ⟨rfl,rfl,rfl,rfl,rfl,rfl,rfl,trivial⟩ ⟨rfl,rfl,rfl⟩
  refine zN ?_
  repeat refine zR ?_
  refine zN ?_
  exact zS () ⟨rfl,rfl,rfl,rfl,rfl,rfl,rfl,trivial⟩ ⟨rfl,rfl,rfl⟩
 rintro _ t _ _ _ ⟨rfl,rfl,rfl⟩
 rw [za rfl]
 refine zN ?_
 refine zM ?_
 refine yb (a:=q) (b:=1) R6 zo ?_
 repeat refine zR ?_
 refine zN ?_
 refine zM ?_
 refine zM ?_
 refine uj (a:=r) (b:=v1) R6 ?_
 repeat refine zR ?_
 refine zN ?_
 have hqr':(q-1)*v1+(r+v1)=top:=by
  obtain ⟨q',rfl⟩:∃q',q=q'+1:=⟨q-1,zo⟩
  rw [Nat.add_mul] at hqr
  rw [Nat.add_sub_cancel]
  omega
 by_cases hov:r+v1<18446744073709551616
 ·rw [Nat.mod_eq_of_lt hov]
  repeat refine zR ?_
  refine zN ?_
  rw [za rfl]
  refine zN ?_
  exact goOn (q-1,r+v1) (by show 2-(r+v1)/9223372036854775808<2-r/9223372036854775808;omega) ⟨rfl,rfl,rfl,rfl,rfl,rfl,trivial⟩ ⟨rfl,rfl,rfl,by show q-1<_;omega,hov,hqr',by show _≤q-1;omega⟩
 rw [show (r+v1)%18446744073709551616=r+v1-18446744073709551616 from zo]
 repeat refine zR ?_
 refine zN ?_
 rw [zc rfl]
 refine zN ?_
 repeat refine zR ?_
 refine zN ?_
 refine retF _ rfl (zi rfl) R2 ⟨q-1,rfl,zo,zo,cg zo zd hvr hqr' ?_ zo⟩
 have h1:=rU (v:=q-1) (w:=v2) zo lv2
 have h2:18446744073709551616*18446744073709551616≤(r+v1)*18446744073709551616:=Nat.mul_le_mul_right _ zo
 omega
end
end Go.Proofs.YtlmbghgklnmlkaaGreatDoor
