import Derived.KernelRfl
import Derived.Test.YtlmbghgklnmlkaaGreatDoorChkC
set_option maxHeartbeats 8000000
set_option linter.unusedVariables false
set_option linter.unusedSimpArgs false
namespace Go.Proofs.YtlmbghgklnmlkaaGreatDoor
open Go Go.GL
variable {P U V c' j l lo m n s N c1 c2 d l1 l2 top:Nat}{h:HF}{X A C Z:List Nat}{a1 a2:Option Addr}
section
theorem lM (hs:s≤64):(18446744073709551616:Nat)=2^(64-s)*2^s:=by rw [←Nat.pow_add,show 64-s+s=64 from zo]
theorem kh {w:Nat}(hs:s≤64):w*2^s%18446744073709551616=w%2^(64-s)*2^s:=by
 rw [lM hs,Nat.mul_mod_mul_right]
theorem zd8 {w c:Nat}(hs:s≤64)(hc:c<2^s):c|||w*2^s%18446744073709551616=c+w*2^s%18446744073709551616:=by
 rw [kh hs,Nat.or_comm,mw hc,Nat.add_comm]
theorem eM {w c:Nat}(hs:s≤64)(hc:c<2^s):c+w*2^s%18446744073709551616<18446744073709551616:=by
 have h1:w%2^(64-s)+1≤2^(64-s):=Nat.mod_lt _ (Nat.pow_pos zd)
 have h2:=Nat.mul_le_mul_right (2^s) h1
 rw [Nat.add_mul,Nat.one_mul,←lM hs] at h2
 rw [kh hs]
 omega
theorem zcr {w:Nat}(hs:s≤64)(hw:w<18446744073709551616):w/2^(64-s)<2^s:=by
 rw [Nat.div_lt_iff_lt_mul (Nat.pow_pos zd),Nat.mul_comm,←lM hs]
 exact hw
theorem mr (n:Nat):2^n=18446744073709551616^(n/64)*2^(n%64):=by
 rw [show (18446744073709551616:Nat)=2^64 from rfl,←Nat.pow_mul,←Nat.pow_add,Nat.div_add_mod]
theorem zan {w c S:Nat}(hV:V+c*P=U*S)(hw:w*S=c'*18446744073709551616+lo)(hs:s=c+lo):V+P*s+c'*(P*18446744073709551616)=(U+P*w)*S:=by
 subst hs
 rw [Nat.add_mul U,←hV,Nat.mul_assoc P w S,hw,Nat.mul_add,Nat.mul_add,Nat.mul_comm c P,Nat.mul_left_comm c' P]
 omega
theorem jt (m:Nat):wv (List.replicate m 0)=0:=uW _ _
theorem tD (k:Nat){a:Option Addr}{c:Nat}(hX:Sl h n 1 (.slice a l c) (u64s X))(nX:NW X)(hb:X.length<100000000∧m<6400000000):
  CF (cal (k+2)) 213 [.slice a l c,.int .u64 (m:Int)] h n fun v h' n' w=>∃L,ResW n h v h' n' w L∧wv L=wv X*2^m∧(ym n v∨v=.slice a l c):=by
 refine zr (fn:=Tryz.f213) R4 ?_
 have e1:=hX.lenW
 subst e1
 refine zN ?_
 repeat refine zR ?_
 refine zN ?_
 by_cases hX0:X.length=0
 ·have hX0':=List.length_eq_zero_iff.1 hX0
  repeat refine zR ?_
  refine zN ?_
  rw [zc rfl]
  refine zN ?_
  repeat refine zR ?_
  refine zN ?_
  exact retH _ ⟨rfl,(zi rfl),rfl⟩ ⟨X,⟨rfl,Nat.le_refl _,Ext.refl _ _,hX,nX⟩,by rw [hX0',show wv []=0 from rfl,Nat.zero_mul],.inr rfl⟩
 by_cases hm0:m=0
 ·repeat refine zR ?_
  refine zN ?_
  rw [zc rfl]
  refine zN ?_
  repeat refine zR ?_
  refine zN ?_
  exact retH _ ⟨rfl,(zi rfl),rfl⟩ ⟨X,⟨rfl,Nat.le_refl _,Ext.refl _ _,hX,nX⟩,by rw [hm0,Nat.pow_zero,Nat.mul_one],.inr rfl⟩
 repeat refine zR ?_
 refine zN ?_
 rw [za rfl]
 refine zN ?_
 rw [mr m]
 obtain ⟨sk,hsk⟩:∃x,x=m/64:=⟨_,rfl⟩
 obtain ⟨s,hs⟩:∃x,x=m%64:=⟨_,rfl⟩
 rw [←hsk,←hs]
 have hs64:s≤64:=zo
 refine zM ?_
 refine xg (a:=m) (b:=64) R6 zo ?_
 rw [←hsk]
 refine wY (ik:=.i64) (a:=(sk:Int)) R6 (by show some (Value.int .i64 (IntKind.wrap .i64 _))=_;rw [wA zo]) ?_
 refine zM ?_
 refine wm (a:=m) (b:=64) R6 zo ?_
 rw [←hs]
 repeat refine zR ?_
 refine zN ?_
 repeat refine zR ?_
 refine xD (len:=X.length+sk+1) (cap:=X.length+sk+1) R9 zo ?_
 rw [show zl (Value.int .u64 0)=[Value.int .u64 0] from rfl,wq]
 generalize hh:upd h (3*n+2) _=h1
 have hr1:∃e,h1 (3*n+2)=some (.row (u64s (List.replicate sk 0++([]++0::List.replicate X.length 0))) e):=⟨_,by rw [←hh,ze,List.nil_append,←List.replicate_succ,List.replicate_append_replicate,show sk+(X.length+1)=X.length+sk+1 from zo]⟩
 obtain ⟨e,hr1⟩:=hr1
 have hx1:Ext n h h1:=by rw [←hh];exact Ext.upd zo
 clear hh
 repeat refine zR ?_
 refine zN ?_
 repeat refine zR ?_
 refine zN ?_
 refine zV (α:=List Nat×Nat) (fun z=>[(5,.int .i64 (sk:Int)),(6,.int .u64 (s:Int)),(7,.slice (some ⟨3*n+2,0,none⟩) (X.length+sk+1) (X.length+sk+1)),(29,.slice a X.length c),(30,.int .i64 (X.length:Int)),(31,.int .i64 (z.1.length:Int))])
  (fun z h' n' w=>n'=n+1∧w=[]∧Ext n h h'∧h' (3*n+2)=some (.row (u64s (List.replicate sk 0++(z.1++z.2::List.replicate (X.length-z.1.length) 0))) e)∧z.1.length≤X.length∧WdD z.1∧z.2<2^s∧wv z.1+z.2*18446744073709551616^z.1.length=wv (X.take z.1.length)*2^s) (fun z=>X.length-z.1.length)
  ([],0) ⟨rfl,rfl,rfl,rfl,rfl,rfl,trivial⟩ ⟨rfl,rfl,hx1,hr1,Nat.zero_le _,WdD.nil,Nat.pow_pos zd,by simp [wv,dv]⟩ (by show X.length-0<LL;unfold LL;omega) ?_
 clear hr1 hx1
 rintro ⟨D,cc⟩ t h1 _ _ ⟨rfl,rfl,hx1,hr1,hD,hDd,hcc,hV⟩
 simp only at hr1 hD hDd hcc hV
 have hccl:cc<18446744073709551616:=Nat.lt_of_lt_of_le hcc (Nat.le_trans (Nat.pow_le_pow_right zd hs64) zd)
 refine zN ?_
 by_cases hDX:D.length=X.length
 ·rw [hDX,Nat.sub_self,List.replicate_zero] at hr1
  rw [hDX,List.take_length] at hV
  repeat refine zR ?_
  refine zN ?_
  rw [za rfl]
  refine zN ?_
  repeat refine zR ?_
  have htr:=xV k (h:=h1) (n:=n+1) (a:=some ⟨3*n+2,0,none⟩) (len:=X.length+sk+1) (cap:=X.length+sk+1) (l:=List.replicate sk 0++(D++[cc])) (by simp;omega) (fun _ e=>by injection e with e;rw [←e]) (xJ zo hr1 (by simp;omega))
  refine zu _ R5 htr ?_
  rintro _ _ _ _ ⟨rfl,rfl,rfl,rfl,hsl⟩
  repeat refine zR ?_
  refine zN ?_
  obtain ⟨t1,t2⟩:=wN (L:=List.replicate sk 0++(D++[cc])) ((WdD.zeros sk).append (WdD.snoc hDd hccl))
  refine retH _ ⟨rfl,(zi rfl),rfl⟩ ⟨_,⟨rfl,Nat.le_succ n,hx1,hsl,t1⟩,?_,.inl (by show 3*n≤3*n+2;omega)⟩
  rw [t2,uL,jt,List.length_replicate,Nat.zero_add,y7,hDX,Nat.mul_comm (18446744073709551616^X.length) cc,hV,Nat.mul_left_comm]
 obtain ⟨w,hw⟩:∃x,X[D.length]?=some x:=⟨X[D.length]'zo,List.getElem?_eq_getElem zo⟩
 have hwl:=nX.1.get hw
 obtain ⟨m',hm'⟩:∃m,X.length-D.length=m+1:=⟨X.length-D.length-1,zo⟩
 rw [hm'] at hr1
 have hlen:(List.replicate sk 0++(D++cc::List.replicate (m'+1) 0)).length=X.length+sk+1:=by simp;omega
 have hZ:=xJ (n:=n+1) zo hr1 hlen
 have hgetc:(List.replicate sk 0++(D++cc::List.replicate (m'+1) 0))[D.length+sk]?=some cc:=by
  rw [List.getElem?_append_right (by simp),List.length_replicate,Nat.add_sub_cancel,List.getElem?_append_right (Nat.le_refl _),Nat.sub_self]
  rfl
 have hset1:∀d,(List.replicate sk 0++(D++cc::List.replicate (m'+1) 0)).set (D.length+sk) d=List.replicate sk 0++(D++d::List.replicate (m'+1) 0):=fun d=>by
  rw [List.set_append_right _ _ (by simp),List.length_replicate,Nat.add_sub_cancel,List.set_append_right _ _ (Nat.le_refl _),Nat.sub_self]
  rfl
 have hset2:∀d d',(List.replicate sk 0++(D++d::List.replicate (m'+1) 0)).set (D.length+sk+1) d'=List.replicate sk 0++((D++[d])++d'::List.replicate m' 0):=fun d d'=>by
  rw [List.set_append_right _ _ (by simp;omega),List.length_replicate,show D.length+sk+1-sk=D.length+1 from zo,List.set_append_right _ _ zo,show D.length+1-D.length=1 from zo,List.replicate_succ]
  simp
 repeat refine zR ?_
 refine zN ?_
 rw [zc rfl]
 refine zN ?_
 repeat refine zR ?_
 refine z6 (f:=fun d:Nat=>Value.int .u64 (d:Int)) (j:=D.length) R7 (hX.ext hx1 (Nat.le_succ n)) R2 hw (fun _=>rfl) R4 fun _=>?_
 repeat refine zR ?_
 refine zN ?_
 repeat refine zR ?_
 refine z6 (f:=fun d:Nat=>Value.int .u64 (d:Int)) (j:=D.length+sk) R7 hZ ⟨rfl,zo⟩ hgetc (fun _=>rfl) R4 fun _=>?_
 refine zM ?_
 refine zM ?_
 refine yz (a:=w) (s:=s) R6 hs64 ?_
 refine xp (a:=cc) (b:=w*2^s%18446744073709551616) R6 ⟨hccl,Nat.mod_lt _ zd⟩ ?_
 rw [zd8 hs64 hcc]
 have hdl:=eM (w:=w) hs64 hcc
 obtain ⟨d,hd⟩:∃d,d=cc+w*2^s%18446744073709551616:=⟨_,rfl⟩
 rw [←hd] at hdl ⊢
 refine y5 (j:=D.length+sk) (v:=.int .u64 (d:Int)) R8 zo ⟨zo,by rw [zP,hlen];omega⟩ hr1 (by show 3*n≤3*n+2;omega) (fun _=>rfl) R3 (fun _=>rfl) rfl fun _=>?_
 rw [yo,hset1]
 generalize hh:upd h1 (3*n+2) _=h2
 have hr2:h2 (3*n+2)=some (.row (u64s (List.replicate sk 0++(D++d::List.replicate (m'+1) 0))) e):=by rw [←hh,ze]
 have hx2:Ext n h h2:=fun b hb=>by rw [←hh,zh zo,hx1 b hb]
 clear hh
 refine zN ?_
 refine zM ?_
 refine zM ?_
 refine zM ?_
 refine zR ?_
 refine zR ?_
 refine zM ?_
 refine zM ?_
 refine yb (a:=64) (b:=s) R6 zo ?_
 refine z7 (a:=w) (s:=64-s) R6 zo ?_
 refine y5 (j:=D.length+sk+1) (v:=.int .u64 ((w/2^(64-s):Nat):Int)) R8 zo ⟨zo,by rw [zP];simp;omega⟩ hr2 (by show 3*n≤3*n+2;omega) (fun _=>rfl) R3 (fun _=>rfl) rfl fun _=>?_
 rw [yo,hset2]
 repeat refine zR ?_
 refine zN ?_
 repeat refine zR ?_
 refine zN ?_
 refine goOn (D++[d],w/2^(64-s)) (by show X.length-(D++[d]).length<X.length-D.length;rw [List.length_append,List.length_singleton];omega) ⟨rfl,rfl,rfl,rfl,rfl,by show Value.int .i64 _=Value.int .i64 _;rw [List.length_append];rfl,trivial⟩ ⟨rfl,rfl,fun b hb=>(zh zo).trans (hx2 b hb),?_,by show (D++[d]).length≤_;rw [List.length_append,List.length_singleton];omega,WdD.snoc hDd hdl,zcr hs64 hwl,?_⟩
 ·refine (ze _ _ _).trans ?_
  simp only
  rw [show X.length-(D++[d]).length=m' from by rw [List.length_append,List.length_singleton];omega]
 simp only
 rw [List.length_append,List.length_singleton,y7,zO hw,Nat.pow_succ]
 exact zan hV (mg hs64) hd
def nxt (X:List Nat)(j s:Nat):Nat:=((X[j]?).getD 0)%2^s
theorem zam {x r S z r':Nat}(hV:V*S+r=U+x%S*P)(hz:z*S=x-x%S+r'*18446744073709551616)(hx:x%S≤x):(V+P*z)*S+r=U+P*x+r'*(P*18446744073709551616):=by
 have e:(V+P*z)*S=V*S+P*(z*S):=by rw [Nat.add_mul,Nat.mul_assoc]
 obtain ⟨y,hy⟩:∃y,x=y+x%S:=⟨x-x%S,zo⟩
 have h1:x-x%S=y:=zo
 rw [e,hz,h1,Nat.mul_add]
 have h2:P*x=P*y+P*(x%S):=by conv=>lhs;rw [hy,Nat.mul_add]
 rw [h2,Nat.mul_left_comm r' P,Nat.mul_comm P (x%S)]
 omega
theorem zal {x y:Nat}(hs:s≤64):(x/2^s|||y*2^(64-s)%18446744073709551616)*2^s=x-x%2^s+y%2^s*18446744073709551616∨18446744073709551616≤x:=by
 by_cases hx:x<18446744073709551616
 ·left
  have h1:x/2^s<2^(64-s):=by
   rw [Nat.div_lt_iff_lt_mul (Nat.pow_pos zd),←lM hs]
   exact hx
  have h64:64-(64-s)=s:=zo
  have e1:=kh (w:=y) (s:=64-s) zo
  rw [h64] at e1
  rw [e1,Nat.or_comm,mw h1,Nat.add_mul,Nat.mul_assoc,←lM hs,Nat.add_comm]
  have:=Nat.div_add_mod x (2^s)
  have h2:x/2^s*2^s=x-x%2^s:=by rw [Nat.mul_comm];omega
  rw [h2]
 right;omega
theorem zg2 (X:List Nat)(j s:Nat):nxt X j s<2^s:=Nat.mod_lt _ (Nat.pow_pos zd)
theorem zcy {x:Nat}(h:X[j]?=some x):nxt X j s=x%2^s:=by unfold nxt;rw [h];rfl
theorem dK (h:X.length≤j):nxt X j s=0:=by unfold nxt;rw [List.getElem?_eq_none h];exact Nat.zero_mod _
theorem zd7 (hX:WdD X):wv X/2^m=wv (X.drop (m/64))/2^(m%64):=by
 rw [mr m,←Nat.div_div_eq_div_mul]
 congr 1
 rcases Nat.lt_or_ge X.length (m/64) with h|h
 ·rw [List.drop_eq_nil_of_le zo,show wv []=0 from rfl,Nat.div_eq_of_lt]
  exact Nat.lt_of_lt_of_le (wQ hX) (Nat.pow_le_pow_right zd zo)
 have hlt:wv (X.take (m/64))<18446744073709551616^(m/64):=by
  have:=wQ (hX.take (m/64))
  rw [List.length_take,Nat.min_eq_left h] at this
  exact this
 rw [qd X (m/64) h,Nat.add_mul_div_left _ _ (Nat.pow_pos zd),Nat.div_eq_of_lt hlt,Nat.zero_add]
theorem qO (k:Nat){a:Option Addr}{c:Nat}(hX:Sl h n 1 (.slice a l c) (u64s X))(nX:NW X)(hb:X.length<100000000∧m<18446744073709551616):
  CF (cal (k+2)) 218 [.slice a l c,.int .u64 (m:Int)] h n fun v h' n' w=>∃L,ResW n h v h' n' w L∧wv L=wv X/2^m∧ym n v:=by
 refine zr (fn:=Tryz.f218) R4 ?_
 have e1:=hX.lenW
 subst e1
 rw [zd7 nX.1]
 obtain ⟨sk,hsk⟩:∃x,x=m/64:=⟨_,rfl⟩
 obtain ⟨s,hs⟩:∃x,x=m%64:=⟨_,rfl⟩
 have hs64:s≤64:=zo
 rw [←hsk,←hs]
 refine zN ?_
 repeat refine zR ?_
 refine zN ?_
 refine zM ?_
 refine xg (a:=m) (b:=64) R6 zo ?_
 rw [←hsk]
 refine zM ?_
 refine st_I (ik:=.i64) (a:=(X.length:Int)) R5 ?_
 refine yQ (c:=X.length) R7 zo ?_
 by_cases hbig:X.length≤sk
 ·repeat refine zR ?_
  refine zN ?_
  rw [zc rfl]
  refine zN ?_
  repeat refine zR ?_
  refine zN ?_
  exact retH _ ⟨rfl,(zi rfl),rfl⟩ ⟨[],⟨rfl,Nat.le_refl _,Ext.refl _ _,.nil (.inl rfl),NW.nil⟩,by rw [List.drop_eq_nil_of_le hbig,show wv []=0 from rfl,Nat.zero_div],trivial⟩
 repeat refine zR ?_
 refine zN ?_
 rw [za rfl]
 refine zN ?_
 refine zM ?_
 refine xg (a:=m) (b:=64) R6 zo ?_
 rw [←hsk]
 refine wY (ik:=.i64) (a:=(sk:Int)) R6 (by show some (Value.int .i64 (IntKind.wrap .i64 _))=_;rw [wA zo]) ?_
 refine zM ?_
 refine wm (a:=m) (b:=64) R6 zo ?_
 rw [←hs]
 repeat refine zR ?_
 refine zN ?_
 obtain ⟨N,hN⟩:∃N,N=X.length-sk:=⟨_,rfl⟩
 refine zM ?_
 refine st_I (ik:=.i64) (a:=(X.length:Int)) R5 ?_
 refine zM ?_
 refine tz (a:=(X.length:Int)) (b:=(sk:Int)) R6 zo ?_
 rw [show (X.length:Int)-(sk:Int)=(N:Int) from zo]
 refine xD (len:=N) (cap:=N) R9 zo ?_
 rw [show zl (Value.int .u64 0)=[Value.int .u64 0] from rfl,wq]
 generalize hh:upd h (3*n+2) _=h1
 have hr1:∃e,h1 (3*n+2)=some (.row (u64s ([]++List.replicate N 0)) e):=⟨_,by rw [←hh,ze];rfl⟩
 obtain ⟨e,hr1⟩:=hr1
 have hx1:Ext n h h1:=by rw [←hh];exact Ext.upd zo
 clear hh
 have hYl:(X.drop sk).length=N:=by rw [List.length_drop];omega
 obtain ⟨Y,hY⟩:∃Y,Y=X.drop sk:=⟨_,rfl⟩
 rw [←hY] at hYl ⊢
 have hYg:∀j,Y[j]?=X[j+sk]?:=fun j=>by rw [hY,List.getElem?_drop,Nat.add_comm]
 have hYd:WdD Y:=by rw [hY];exact nX.1.drop sk
 repeat refine zR ?_
 refine zN ?_
 repeat refine zR ?_
 refine zN ?_
 refine zV (α:=List Nat) (fun D=>[(0,.slice a X.length c),(5,.int .i64 (sk:Int)),(6,.int .u64 (s:Int)),(7,.slice (some ⟨3*n+2,0,none⟩) N N),(26,.int .i64 (N:Int)),(27,.int .i64 (D.length:Int))])
  (fun D h' n' w=>n'=n+1∧w=[]∧Ext n h h'∧h' (3*n+2)=some (.row (u64s (D++List.replicate (N-D.length) 0)) e)∧D.length≤N∧WdD D∧wv D*2^s+nxt Y 0 s=wv (Y.take D.length)+nxt Y D.length s*18446744073709551616^D.length) (fun D=>N-D.length)
  [] ⟨rfl,rfl,rfl,rfl,rfl,rfl,trivial⟩ ⟨rfl,rfl,hx1,hr1,Nat.zero_le _,WdD.nil,by simp [wv,dv]⟩ (by show N-0<LL;unfold LL;omega) ?_
 clear hr1 hx1
 rintro D t h1 _ _ ⟨rfl,rfl,hx1,hr1,hD,hDd,hV⟩
 refine zN ?_
 by_cases hDN:D.length=N
 ·rw [hDN,Nat.sub_self,List.replicate_zero,List.append_nil] at hr1
  rw [hDN,dK (X:=Y) (j:=N) zo,Nat.zero_mul,Nat.add_zero,←hYl,List.take_length] at hV
  repeat refine zR ?_
  refine zN ?_
  rw [za rfl]
  refine zN ?_
  repeat refine zR ?_
  have htr:=xV k (h:=h1) (n:=n+1) (a:=some ⟨3*n+2,0,none⟩) (len:=N) (cap:=N) (l:=D) zo (fun _ e=>by injection e with e;rw [←e]) (xJ zo hr1 hDN)
  refine zu _ R5 htr ?_
  rintro _ _ _ _ ⟨rfl,rfl,rfl,rfl,hsl⟩
  repeat refine zR ?_
  refine zN ?_
  obtain ⟨t1,t2⟩:=wN hDd
  refine retH _ ⟨rfl,(zi rfl),rfl⟩ ⟨_,⟨rfl,Nat.le_succ n,hx1,hsl,t1⟩,?_,by show 3*n≤3*n+2;omega⟩
  rw [t2,←hV,Nat.add_comm,Nat.add_mul_div_right _ _ (Nat.pow_pos zd),Nat.div_eq_of_lt (zg2 _ _ _),Nat.zero_add]
 obtain ⟨x,hx⟩:∃x,X[D.length+sk]?=some x:=⟨X[D.length+sk]'zo,List.getElem?_eq_getElem zo⟩
 have hxl:=nX.1.get hx
 have hyx:Y[D.length]?=some x:=by rw [hYg];exact hx
 obtain ⟨m',hm'⟩:∃m,N-D.length=m+1:=⟨N-D.length-1,zo⟩
 rw [hm'] at hr1
 have hX1:=hX.ext hx1 (Nat.le_succ n)
 have hxs:x/2^s<18446744073709551616:=Nat.lt_of_le_of_lt (Nat.div_le_self _ _) hxl
 repeat refine zR ?_
 refine zN ?_
 rw [zc rfl]
 refine zN ?_
 repeat refine zR ?_
 refine zN ?_
 repeat refine zR ?_
 refine z6 (f:=fun d:Nat=>Value.int .u64 (d:Int)) (j:=D.length+sk) R7 hX1 ⟨rfl,zo⟩ hx (fun _=>rfl) R4 fun _=>?_
 refine zM ?_
 refine z7 (a:=x) (s:=s) R6 hs64 ?_
 refine y5 (j:=D.length) (v:=.int .u64 ((x/2^s:Nat):Int)) R8 rfl ⟨zo,by rw [zP];simp⟩ hr1 (by show 3*n≤3*n+2;omega) (fun _=>rfl) R3 (fun _=>rfl) rfl fun _=>?_
 rw [yo,sj]
 generalize hh:upd h1 (3*n+2) _=h2
 have hr2:h2 (3*n+2)=some (.row (u64s ((D++[x/2^s])++List.replicate m' 0)) e):=by rw [←hh,ze]
 have hx2:Ext n h h2:=fun b hb=>by rw [←hh,zh zo,hx1 b hb]
 clear hh hX1
 have hX2:=hX.ext hx2 (Nat.le_succ n)
 have hlen:((D++[x/2^s])++List.replicate m' 0).length=N:=by simp;omega
 have hget:((D++[x/2^s])++List.replicate m' 0)[D.length]?=some (x/2^s):=by rw [List.append_assoc,List.getElem?_append_right (Nat.le_refl _),Nat.sub_self];rfl
 refine zN ?_
 repeat refine zR ?_
 simp only [zZ,yc,zk,yd]
 refine zaa (α:=Nat) (fun _=>[(0,.slice a X.length c),(5,.int .i64 (sk:Int)),(6,.int .u64 (s:Int)),(7,.slice (some ⟨3*n+2,0,none⟩) N N),(26,.int .i64 (N:Int)),(27,.int .i64 (D.length:Int))])
  (fun z h' n' w=>n'=n+1∧w=[]∧Ext n h h'∧h' (3*n+2)=some (.row (u64s ((D++[z])++List.replicate m' 0)) e)∧z<18446744073709551616∧z*2^s=x-x%2^s+nxt Y (D.length+1) s*18446744073709551616) ?_ ?_
 ·by_cases hlast:D.length+sk+1<X.length
  ·obtain ⟨y,hy⟩:∃x,X[D.length+sk+1]?=some x:=⟨X[D.length+sk+1]'zo,List.getElem?_eq_getElem zo⟩
   have hyY:Y[D.length+1]?=some y:=by rw [hYg,show D.length+1+sk=D.length+sk+1 from zo];exact hy
   rw [zc (by show Value.bool _=_;rw [decide_eq_true zo])]
   rw [i7 rfl]
   repeat refine zR ?_
   refine z6 (f:=fun d:Nat=>Value.int .u64 (d:Int)) (j:=D.length) R7 (xJ (n:=n+1) zo hr2 hlen) R2 hget (fun _=>rfl) R4 fun _=>?_
   repeat refine zR ?_
   refine z6 (f:=fun d:Nat=>Value.int .u64 (d:Int)) (j:=D.length+sk+1) R7 hX2 ⟨rfl,zo⟩ hy (fun _=>rfl) R4 fun _=>?_
   refine zM ?_
   refine yb (a:=64) (b:=s) R6 zo ?_
   refine yz (a:=y) (s:=64-s) R6 zo ?_
   refine xp (a:=x/2^s) (b:=y*2^(64-s)%18446744073709551616) R6 ⟨hxs,Nat.mod_lt _ zd⟩ ?_
   refine y5 (j:=D.length) (v:=.int .u64 ((x/2^s|||y*2^(64-s)%18446744073709551616:Nat):Int)) R8 rfl ⟨zo,by rw [zP,hlen];omega⟩ hr2 (by show 3*n≤3*n+2;omega) (fun _=>rfl) R3 (fun _=>rfl) rfl fun _=>?_
   rw [yo,List.append_assoc,List.set_append_right _ _ (Nat.le_refl _),Nat.sub_self]
   refine zN ?_
   refine zS (x/2^s|||y*2^(64-s)%18446744073709551616) ⟨rfl,rfl,rfl,rfl,rfl,rfl,trivial⟩ ⟨rfl,rfl,fun b hb=>(zh zo).trans (hx2 b hb),(ze _ _ _).trans (by rw [List.append_assoc];rfl),Nat.or_lt_two_pow (n:=64) hxs (Nat.mod_lt _ zd),?_⟩
   rw [zcy hyY]
   exact (zal hs64).resolve_right zo
  rw [za (by show Value.bool _=_;rw [decide_eq_false zo])]
  refine zN ?_
  refine zS (x/2^s) ⟨rfl,rfl,rfl,rfl,rfl,rfl,trivial⟩ ⟨rfl,rfl,hx2,hr2,hxs,?_⟩
  rw [dK zo,Nat.zero_mul,Nat.add_zero]
  have:=Nat.div_add_mod x (2^s)
  rw [Nat.mul_comm] at this
  omega
 rintro z t h3 _ _ ⟨rfl,rfl,hx3,hr3,hzl,hz⟩
 refine zN ?_
 repeat refine zR ?_
 refine zN ?_
 refine goOn (D++[z]) (by show N-(D++[z]).length<N-D.length;rw [List.length_append,List.length_singleton];omega) ⟨rfl,rfl,rfl,rfl,rfl,by show Value.int .i64 _=Value.int .i64 _;rw [List.length_append];rfl,trivial⟩ ⟨rfl,rfl,hx3,?_,by rw [List.length_append,List.length_singleton];omega,WdD.snoc hDd hzl,?_⟩
 ·refine hr3.trans ?_
  rw [show N-(D++[z]).length=m' from by rw [List.length_append,List.length_singleton];omega]
 rw [List.length_append,List.length_singleton,y7,zO hyx,Nat.pow_succ]
 rw [zcy hyx] at hV
 exact zam hV hz (Nat.mod_le _ _)
end
section
theorem za6 {Y V:List Nat}{y1:Nat}(hYl:Y.length=m+2)(nY:NW Y)(hy:Y[m+1]?=some y1)(h1:9223372036854775808≤y1*2^s)(h2:y1*2^s<18446744073709551616)(hs:s<64)(nV:NW V)(hV:wv V=wv Y*2^s):
  V.length=m+2∧(∀x,V[m+1]?=some x→9223372036854775808≤x)∧wv V<18446744073709551616^(m+2)∧18446744073709551616^(m+1)*9223372036854775808≤wv V:=by
 have eY:wv Y=wv (Y.take (m+1))+18446744073709551616^(m+1)*y1:=by
  rw [←zO hy,show m+1+1=Y.length from zo,List.take_length]
 have hlo:wv (Y.take (m+1))<18446744073709551616^(m+1):=by
  have:=wQ (nY.1.take (m+1))
  rw [List.length_take,Nat.min_eq_left zo] at this
  exact this
 have hup:(y1+1)*2^s≤18446744073709551616:=by
  rw [lM (s:=s) zo] at h2 ⊢
  exact Nat.mul_le_mul_right _ (Nat.lt_of_mul_lt_mul_right h2)
 rw [Nat.pow_succ _ (m+1)]
 generalize hP:18446744073709551616^(m+1)=P at*
 have hPp:0<P:=zo
 have b1:wv V<P*18446744073709551616:=by
  rw [hV,eY]
  have e1:(wv (Y.take (m+1))+P*y1)*2^s<(P*(y1+1))*2^s:=by
   refine Nat.mul_lt_mul_of_pos_right ?_ (Nat.pow_pos zd)
   rw [Nat.mul_add,Nat.mul_one];omega
  have e2:P*(y1+1)*2^s≤P*18446744073709551616:=by rw [Nat.mul_assoc];exact Nat.mul_le_mul_left _ hup
  omega
 have b2:P*9223372036854775808≤wv V:=by
  rw [hV,eY,Nat.add_mul,Nat.mul_assoc]
  have:=Nat.mul_le_mul_left P h1
  omega
 have hle:V.length≤m+2:=nV.len_le (by rw [Nat.pow_succ _ (m+1),hP];exact b1)
 have hge:m+2≤V.length:=by
  rcases Nat.lt_or_ge V.length (m+2) with hl|hl
  ·have h3:=wQ nV.1
   have h4:18446744073709551616^V.length≤18446744073709551616^(m+1):=Nat.pow_le_pow_right zd zo
   rw [hP] at h4
   omega
  exact hl
 refine ⟨zo,fun x hx=>?_,b1,b2⟩
 have eV:wv V=wv (V.take (m+1))+P*x:=by
  rw [←hP,←zO hx,show m+1+1=V.length from zo,List.take_length]
 have hlo2:wv (V.take (m+1))<P:=by
  have:=wQ (nV.1.take (m+1))
  rw [List.length_take,Nat.min_eq_left zo,hP] at this
  exact this
 rcases Nat.lt_or_ge x 9223372036854775808 with hx'|hx'
 ·have:=Nat.mul_le_mul_left P hx'
  rw [Nat.mul_succ] at this
  omega
 exact hx'
theorem zds {P S V:List Nat}(hZ:Z.length=N)(hd:WdD Z)(hV:wv V<18446744073709551616^N)(h:wv ((P++(Z++top::S)).drop (P.length+1))<wv V)(hN:1≤N):
  wv S=0∧wv (Z++[top])<18446744073709551616*wv V:=by
 have e:(P++(Z++top::S)).drop (P.length+1)=(Z++top::S).drop 1:=by rw [←List.drop_drop,List.drop_left' rfl]
 rw [e] at h
 cases Z with
 |nil=>simp at hZ;omega
 |cons z Z=>
  rw [List.cons_append,List.drop_succ_cons,List.drop_zero] at h
  rw [uL,show wv (top::S)=top+18446744073709551616*wv S from rfl] at h
  have hZl:Z.length+1=N:=by simpa using hZ
  have hS:wv S=0:=by
   rcases Nat.eq_zero_or_pos (wv S) with h0|h0
   ·exact h0
   have h1:18446744073709551616^Z.length*(18446744073709551616*1)≤18446744073709551616^Z.length*(18446744073709551616*wv S):=Nat.mul_le_mul_left _ (Nat.mul_le_mul_left _ h0)
   rw [Nat.mul_one,←Nat.pow_succ,show Z.length.succ=N from hZl] at h1
   rw [Nat.mul_add] at h
   omega
  refine ⟨hS,?_⟩
  have h2:wv (Z++[top])<wv V:=by
   rw [y7]
   rw [hS,Nat.mul_zero,Nat.add_zero] at h
   exact h
  have hz:=hd z (by simp)
  show z+18446744073709551616*wv (Z++[top])<_
  omega
theorem zga (P Z S:List Nat)(top:Nat):wv (P++(Z++top::S))=wv P+18446744073709551616^P.length*(wv (Z++[top])+18446744073709551616^(Z.length+1)*wv S):=by
 rw [show Z++top::S=(Z++[top])++S from by simp,uL,uL,List.length_append,List.length_singleton]
theorem zfk {P S Zf V Q:List Nat}{t' q X2:Nat}(hZ:Zf.length=Z.length)(hW:wv (Zf++[t'])+wv V*q=wv (Z++[top]))(hE:X2=wv (P++(Z++top::S))+wv V*wv Q*18446744073709551616^(P.length+1)):
  X2=wv (P++(Zf++t'::S))+wv V*wv (q::Q)*18446744073709551616^P.length:=by
 rw [zga] at hE ⊢
 rw [hE,hZ,←hW,Nat.pow_succ _ P.length,show wv (q::Q)=q+18446744073709551616*wv Q from rfl]
 generalize 18446744073709551616^P.length=A
 generalize 18446744073709551616^(Z.length+1)*wv S=T
 generalize wv (Zf++[t'])=U
 generalize wv V=v
 generalize wv Q=w
 rw [Nat.mul_add v,Nat.add_mul,Nat.mul_add A,Nat.mul_add A,Nat.mul_add A]
 have e1:v*(18446744073709551616*w)*A=v*w*(A*18446744073709551616):=by
  rw [Nat.mul_left_comm v,Nat.mul_comm A,←Nat.mul_assoc (v*w),Nat.mul_comm (v*w)]
 have e2:A*(v*q)=v*q*A:=Nat.mul_comm _ _
 omega
theorem zbt {Z1 V:List Nat}{c:Nat}(hZ1:Z1.length=N)(hZ:Z.length=N)(dZ1:WdD Z1)(hV0:0<wv V)(hs:wv Z1+wv V*d=wv Z+c*18446744073709551616^N)(hlo:wv (Z++[top])/wv V≤d)(hhi:d≤wv (Z++[top])/wv V+1):
  (c≤top→d=wv (Z++[top])/wv V∧wv (Z1++[top-c])=wv (Z++[top])%wv V)∧(top<c→d=wv (Z++[top])/wv V+1∧wv (Z++[top])%wv V+(c-top)*18446744073709551616^N=wv Z1+wv V):=by
 have hlt:=wQ dZ1
 rw [hZ1] at hlt
 have eW:wv (Z++[top])=wv Z+18446744073709551616^N*top:=by rw [y7,hZ]
 have eZ1:∀t,wv (Z1++[t])=wv Z1+18446744073709551616^N*t:=fun t=>by rw [y7,hZ1]
 have hdm:=Nat.div_add_mod (wv (Z++[top])) (wv V)
 have hml:=Nat.mod_lt (wv (Z++[top])) hV0
 obtain ⟨q,hq⟩:∃q,q=wv (Z++[top])/wv V:=⟨_,rfl⟩
 obtain ⟨r,hr⟩:∃r,r=wv (Z++[top])%wv V:=⟨_,rfl⟩
 rw [←hq] at hdm hlo hhi ⊢
 rw [←hr] at hdm hml ⊢
 generalize 18446744073709551616^N=P at*
 generalize wv V=v at*
 generalize wv Z=z at*
 have hd:d=q∨d=q+1:=zo
 constructor
 ·intro hct
  obtain ⟨y,hy⟩:∃y,top=c+y:=⟨top-c,zo⟩
  rw [eZ1]
  have e0:top-c=y:=zo
  have e1:P*top=c*P+P*y:=by rw [hy,Nat.mul_add,Nat.mul_comm P c]
  rw [e0]
  rcases hd with rfl|rfl
  ·exact ⟨rfl,zo⟩
  rw [Nat.mul_add,Nat.mul_one] at hs
  omega
 intro hct
 obtain ⟨y,hy⟩:∃y,c=top+(y+1):=⟨c-top-1,zo⟩
 have e0:c-top=y+1:=zo
 have e1:c*P=P*top+(y+1)*P:=by rw [hy,Nat.add_mul,Nat.mul_comm P top]
 have e2:(y+1)*P=y*P+P:=by rw [Nat.add_mul,Nat.one_mul]
 rw [e0]
 rcases hd with rfl|rfl
 ·omega
 rw [Nat.mul_add,Nat.mul_one] at hs
 exact ⟨rfl,zo⟩
theorem mO (k:Nat)(hA:Sl h n 1 (.slice a1 l1 c1) (u64s A))(hC:Sl h n 1 (.slice a2 l2 c2) (u64s C))(nA:NW A)(nC:NW C)(hb:A.length<10000000∧C.length<10000000)(hC0:0<wv C):
  CF (cal (k+5)) 205 [.slice a1 l1 c1,.slice a2 l2 c2] h n fun v h' n' w=>∃vq vr Lq Lr,v=.tuple #[vq,vr]∧w=[]∧n≤n'∧Ext n h h'∧Sl h' n' 1 vq (u64s Lq)∧NW Lq∧Sl h' n' 1 vr (u64s Lr)∧NW Lr∧wv Lq=wv A/wv C∧wv Lr=wv A%wv C∧ym n vq∧(ym n vr∨vr=.slice a1 l1 c1):=by
 refine zr (fn:=Tryz.f205) R4 ?_
 have e1:=hA.lenW
 have e2:=hC.lenW
 subst e1 e2
 refine zN ?_
 repeat refine zR ?_
 refine zN ?_
 refine zM ?_
 refine zM ?_
 refine yg _ R5 (tR (k+1) hA hC nA nC zo) ?_
 rintro _ rfl
 by_cases hlt:wv A<wv C
 ·rw [vh hlt]
  repeat refine zR ?_
  refine zN ?_
  rw [zc rfl]
  refine zN ?_
  repeat refine zR ?_
  refine zN ?_
  exact retH [.slice none 0 0,.slice a1 A.length c1] R3 ⟨_,_,[],A,rfl,rfl,Nat.le_refl _,Ext.refl _ _,.nil (.inl rfl),NW.nil,hA,nA,by rw [Nat.div_eq_of_lt hlt];rfl,by rw [Nat.mod_eq_of_lt hlt],trivial,.inr rfl⟩
 have hcmp:¬cmpZ (wv A) (wv C)<0:=by
  rcases Nat.lt_or_ge (wv C) (wv A) with h|h
  ·rw [vG h];decide
  rw [show wv A=wv C from zo,ry];decide
 repeat refine zR ?_
 refine zN ?_
 rw [za rfl]
 refine zN ?_
 by_cases hC1:C.length=1
 ·obtain ⟨y,rfl⟩:=List.length_eq_one_iff.1 hC1
  have hy:=nC.1 y (by simp)
  rw [qw] at hC0 ⊢
  rw [show [y].length=1 from rfl] at hC ⊢
  repeat refine zR ?_
  refine zN ?_
  rw [zc rfl]
  refine zN ?_
  repeat refine zR ?_
  refine z6 (f:=fun d:Nat=>Value.int .u64 (d:Int)) (l:=[y]) (j:=0) R7 hC R2 rfl (fun _=>rfl) R4 fun _=>?_
  refine zu _ R5 (fe k zo nA.1 ⟨hC0,hy⟩ hA) ?_
  rintro _ h1 n1 _ ⟨v1,L1,rfl,⟨rfl,hn1,hx1,hs1,hN1⟩,hv1,_,hf1⟩
  obtain ⟨a3,l3,c3,rfl,_⟩:=hs1.len
  repeat refine zR ?_
  refine zN ?_
  repeat refine zR ?_
  refine zu _ R5 (tQ (k+3) h1 n1 (w:=wv A%y) (Nat.lt_trans (Nat.mod_lt _ hC0) hy)) ?_
  rintro v2 h2 n2 _ ⟨L2,⟨rfl,hn2,hx2,hs2,hN2⟩,hv2,_,hf2⟩
  obtain ⟨a4,l4,c4,rfl,_⟩:=hs2.len
  repeat refine zR ?_
  refine zN ?_
  exact retH [.slice a3 l3 c3,.slice a4 l4 c4] R3 ⟨_,_,L1,L2,rfl,rfl,by show n≤n2;omega,hx1.trans hx2 hn1,hs1.ext hx2 hn2,hN1,hs2,hN2,hv1,hv2,hf1,.inl (hf2.mono hn1)⟩
 have hC2:2≤C.length:=by
  rcases Nat.lt_or_ge C.length 2 with h|h
  ·have:C.length=0:=zo
   rw [List.length_eq_zero_iff.1 this] at hC0
   exact absurd hC0 zd
  exact h
 obtain ⟨m,hm⟩:∃m,C.length=m+2:=⟨C.length-2,zo⟩
 have hAC:m+2≤A.length:=by
  rcases Nat.lt_or_ge A.length C.length with hl|hl
  ·have:=nA.len_lt nC hl;omega
  omega
 rw [hm] at hC ⊢
 repeat refine zR ?_
 refine zN ?_
 rw [za rfl]
 refine zN ?_
 repeat refine zR ?_
 refine zN ?_
 obtain ⟨y1,hy1⟩:∃x,C[m+1]?=some x:=⟨C[m+1]'zo,List.getElem?_eq_getElem zo⟩
 have hy1l:=nC.1.get hy1
 have hy10:y1≠0:=by
  obtain ⟨i,d,hid⟩:=Go.Proofs.YtlmbghgklnmlkaaGreatDoor.snoc (l:=C) (by intro e;rw [e] at hm;simp at hm)
  have hil:i.length=m+1:=by rw [hid] at hm;simp at hm;omega
  rw [hid,←hil,List.getElem?_append_right (Nat.le_refl _),Nat.sub_self] at hy1
  have:d=y1:=by simpa using hy1
  rw [←this]
  exact NW.last (by rw [←hid];exact nC)
 repeat refine zR ?_
 refine z6 (f:=fun d:Nat=>Value.int .u64 (d:Int)) (j:=m+1) R7 hC ⟨rfl,zo⟩ hy1 (fun _=>rfl) R4 fun _=>?_
 refine yg _ R5 (kx (k+2) h n hy1l hy10) ?_
 rintro _ ⟨s,rfl,hs64,hs1,hs2⟩
 refine yQ (c:=s) R7 zo ?_
 repeat refine zR ?_
 refine zN ?_
 refine zM ?_
 refine zM ?_
 refine zu _ R5 (tD (k+2) (m:=s) hC nC zo) ?_
 rintro vV h1 n1 _ ⟨V,⟨rfl,hn1,hx1,hsV,nV⟩,hvV,hfV⟩
 obtain ⟨hVl,hVtop,hVlt,hVge⟩:=za6 hm nC hy1 hs1 hs2 hs64 nV hvV
 obtain ⟨aV,lV,cV,rfl,_⟩:=hsV.len
 have hVlen:=hsV.lenW
 rw [hVl] at hVlen
 subst hVlen
 repeat refine zR ?_
 refine zN ?_
 repeat refine zR ?_
 refine xD (len:=A.length+1) (cap:=A.length+1) R9 zo ?_
 rw [show zl (Value.int .u64 0)=[Value.int .u64 0] from rfl,wq]
 generalize hh:upd h1 (3*n1+2) _=h2
 have hr2:∃e,h2 (3*n1+2)=some (.row (u64s (List.replicate (A.length+1) 0)) e):=⟨_,by rw [←hh,ze]⟩
 obtain ⟨eR,hr2⟩:=hr2
 have hx2:Ext n1 h1 h2:=by rw [←hh];exact Ext.upd zo
 clear hh
 repeat refine zR ?_
 refine zN ?_
 refine zM ?_
 refine zM ?_
 refine zM ?_
 refine zu _ R5 (tD (k+2) (m:=s) (hA.ext (hx1.trans hx2 hn1) (show n≤n1+1 by omega)) nA zo) ?_
 rintro vS h3 n3 _ ⟨S0,⟨rfl,hn3,hx3,hsS,nS⟩,hvS,_⟩
 obtain ⟨aS,lS,cS,rfl,_⟩:=hsS.len
 have hSlen:=hsS.lenW
 subst hSlen
 have hr3:h3 (3*n1+2)=_:=(hx3 _ zo).trans hr2
 have hAlt:=wQ nA.1
 have hSlt:wv S0<18446744073709551616^(A.length+1):=by
  rw [hvS,Nat.pow_succ]
  have h1:(2:Nat)^s<18446744073709551616:=Nat.pow_lt_pow_right zd (show s<64 by omega)
  have h2:wv A*2^s≤wv A*18446744073709551616:=Nat.mul_le_mul_left _ zo
  have h3:wv A*18446744073709551616<18446744073709551616^A.length*18446744073709551616:=Nat.mul_lt_mul_of_pos_right hAlt zd
  omega
 have hSl:S0.length≤A.length+1:=nS.len_le hSlt
 refine oU (m:=S0.length) R7 (vI hsS) hSl hr3 (by rw [zP,zP,List.length_replicate];exact hSl) (uP S0) (by show 3*n≤3*n1+2;omega) ?_
 rw [zP,t8,←wU,List.drop_replicate]
 obtain ⟨R0,hR0⟩:∃R,R=S0++List.replicate (A.length+1-S0.length) 0:=⟨_,rfl⟩
 rw [←hR0]
 have hR0l:R0.length=A.length+1:=by rw [hR0,List.length_append,List.length_replicate];omega
 have hR0d:WdD R0:=by rw [hR0];exact nS.1.append (WdD.zeros _)
 have hR0v:wv R0=wv A*2^s:=by rw [hR0,uL,jt,Nat.mul_zero,Nat.add_zero,hvS]
 generalize hh:upd h3 (3*n1+2) _=h4
 have hr4:h4 (3*n1+2)=some (.row (u64s R0) eR):=by rw [←hh,ze]
 have hx4:Ext n1 h1 h4:=fun b hb=>by rw [←hh,zh zo,hx3 b zo,hx2 b hb]
 clear hh hr3 hr2 hx2 hx3 hsS
 refine zN ?_
 obtain ⟨M,hM⟩:∃M,M=A.length-(m+2):=⟨_,rfl⟩
 repeat refine zR ?_
 rw [show (A.length:Int)-((m+2:Nat):Int)+1=((M+1:Nat):Int) from zo]
 refine xD (len:=M+1) (cap:=M+1) R9 zo ?_
 rw [show zl (Value.int .u64 0)=[Value.int .u64 0] from rfl,wq]
 generalize hh:upd h4 (3*n3+2) _=h5
 have hq5:∃e,h5 (3*n3+2)=some (.row (u64s (List.replicate (M+1) 0++[])) e):=⟨_,by rw [←hh,ze,List.append_nil]⟩
 obtain ⟨eQ,hq5⟩:=hq5
 have hr5:h5 (3*n1+2)=some (.row (u64s R0) eR):=by rw [←hh,zh zo];exact hr4
 have hx5:Ext n1 h1 h5:=fun b hb=>by rw [←hh,zh zo,hx4 b hb]
 clear hh hr4 hx4
 repeat refine zR ?_
 refine zN ?_
 repeat refine zR ?_
 refine zN ?_
 have hstart:wv (R0.drop (M+1))<wv V:=by
  have h1:=qd R0 (M+1) zo
  have h2:18446744073709551616^(M+1)*wv (R0.drop (M+1))<18446744073709551616^(M+1)*wv V:=by
   refine Nat.lt_of_le_of_lt (show _≤wv R0 by omega) ?_
   rw [hR0v]
   have h3:(2:Nat)^s≤9223372036854775808:=Nat.pow_le_pow_right zd (show s≤63 by omega)
   have h4:wv A*2^s≤wv A*9223372036854775808:=Nat.mul_le_mul_left _ h3
   have h5:wv A*9223372036854775808<18446744073709551616^A.length*9223372036854775808:=Nat.mul_lt_mul_of_pos_right hAlt zd
   have h6:18446744073709551616^A.length*9223372036854775808=18446744073709551616^(M+1)*(18446744073709551616^(m+1)*9223372036854775808):=by
    rw [←Nat.mul_assoc,←Nat.pow_add,show M+1+(m+1)=A.length from zo]
   have h7:=Nat.mul_le_mul_left (18446744073709551616^(M+1)) hVge
   omega
  exact Nat.lt_of_mul_lt_mul_left h2
 have hV0:0<wv V:=zo
 refine zV (α:=Nat×List Nat×List Nat) (fun z=>[(8,.int .i64 ((m+2:Nat):Int)),(9,.int .u64 (s:Int)),(10,.slice aV (m+2) cV),(11,.slice (some ⟨3*n1+2,0,none⟩) (A.length+1) (A.length+1)),(12,.slice (some ⟨3*n3+2,0,none⟩) (M+1) (M+1)),(13,.int .i64 ((z.1:Int)-1))])
  (fun z h' n' w=>n'=n3+1∧w=[]∧Ext n1 h1 h'∧h' (3*n1+2)=some (.row (u64s z.2.1) eR)∧h' (3*n3+2)=some (.row (u64s (List.replicate z.1 0++z.2.2)) eQ)∧z.2.1.length=A.length+1∧WdD z.2.1∧z.1≤M+1∧z.2.2.length=M+1-z.1∧WdD z.2.2∧wv A*2^s=wv z.2.1+wv V*wv z.2.2*18446744073709551616^z.1∧wv (z.2.1.drop z.1)<wv V) (fun z=>z.1)
  (M+1,R0,[]) ⟨rfl,rfl,rfl,rfl,rfl,by show Value.int .i64 _=Value.int .i64 _;congr 1;omega,trivial⟩ ⟨rfl,rfl,hx5,hr5,hq5,hR0l,hR0d,Nat.le_refl _,by simp,WdD.nil,by rw [hR0v,show wv []=0 from rfl,Nat.mul_zero,Nat.zero_mul,Nat.add_zero],hstart⟩ (by show M+1<LL;unfold LL;omega) ?_
 clear hr5 hq5 hx5 hstart hR0v hR0d hR0l hR0
 rintro ⟨j,R,Q⟩ t h6 _ _ ⟨rfl,rfl,hx6,hr6,hq6,hRl,hRd,hj,hQl,hQd,hE,hRlt⟩
 simp only at hr6 hq6 hRl hRd hj hQl hQd hE hRlt
 refine zN ?_
 cases j with
 |zero=>
  rw [List.drop_zero] at hRlt
  rw [List.replicate_zero,List.nil_append] at hq6
  rw [Nat.pow_zero,Nat.mul_one,hvV] at hE
  rw [hvV] at hRlt
  obtain ⟨r1,r2⟩:=mQ (U:=wv A) (y:=wv C) (s:=s) (Q:=wv Q) (r:=wv R) (by rw [hE,Nat.add_comm,Nat.mul_comm (wv Q)]) hRlt
  repeat refine zR ?_
  refine zN ?_
  rw [za rfl]
  refine zN ?_
  repeat refine zR ?_
  have htr:=xV (k+3) (h:=h6) (n:=n3+1) (a:=some ⟨3*n3+2,0,none⟩) (len:=M+1) (cap:=M+1) (l:=Q) zo (fun _ e=>by injection e with e;rw [←e]) (xJ zo hq6 zo)
  refine zu _ R5 htr ?_
  rintro _ h6 _ _ ⟨rfl,rfl,rfl,rfl,hsq⟩
  repeat refine zR ?_
  have htr2:=xV (k+3) (h:=h6) (n:=n3+1) (a:=some ⟨3*n1+2,0,none⟩) (len:=A.length+1) (cap:=A.length+1) (l:=R) zo (fun _ e=>by injection e with e;rw [←e]) (xJ zo hr6 hRl)
  refine zu _ R5 htr2 ?_
  rintro _ h6 _ _ ⟨rfl,rfl,rfl,rfl,hsr⟩
  obtain ⟨tq1,tq2⟩:=wN hQd
  obtain ⟨tr1,tr2⟩:=wN hRd
  repeat refine zR ?_
  refine zu _ R5 (qO (k+2) (m:=s) hsr tr1 (by have:=yU R;omega)) ?_
  rintro vr h7 n7 _ ⟨L7,⟨rfl,hn7,hx7,hs7,hN7⟩,hv7,hf7⟩
  obtain ⟨a7,l7,c7,rfl,_⟩:=hs7.len
  repeat refine zR ?_
  refine zN ?_
  exact retH [.slice (some ⟨3*n3+2,0,none⟩) (zT Q).length (M+1),.slice a7 l7 c7] R3 ⟨_,_,_,L7,rfl,rfl,by show n≤n7;omega,fun b hb=>(hx7 b zo).trans ((hx6 b zo).trans (hx1 b hb)),hsq.ext hx7 hn7,tq1,hs7,hN7,by rw [tq2,r1],by rw [hv7,tr2,r2],by show 3*n≤3*n3+2;omega,.inl (hf7.mono zo)⟩
 |succ i=>
 obtain ⟨P,Z,top,S,hPZ,hP,hZ⟩:∃P Z top S,R=P++(Z++top::S)∧P.length=i∧Z.length=m+2:=by
  have hd:(R.drop i).drop (m+2)≠[]:=by
   intro e
   have:=congrArg List.length e
   rw [List.length_drop,List.length_drop,List.length_nil] at this
   omega
  obtain ⟨top,S,hS⟩:=List.exists_cons_of_ne_nil hd
  exact ⟨R.take i,(R.drop i).take (m+2),top,S,by rw [←hS,List.take_append_drop,List.take_append_drop],by rw [List.length_take];omega,by rw [List.length_take,List.length_drop];omega⟩
 subst hPZ hP
 have hSl:S.length+(P.length+m+3)=A.length+1:=by
  rw [←hRl];simp only [List.length_append,List.length_cons];omega
 have hPd:WdD P:=fun d hd=>hRd d (by simp [hd])
 have hZd:WdD Z:=fun d hd=>hRd d (by simp [hd])
 have htl:top<18446744073709551616:=hRd top (by simp)
 have hSd:WdD S:=fun d hd=>hRd d (by simp [hd])
 obtain ⟨hS0,hWlt⟩:=zds hZ hZd hVlt hRlt zo
 have hsV6:=(hsV.ext hx6 (show n1≤n3+1 by omega))
 have hVoff:Off (3*n1+2) (.slice aV (m+2) cV):=hsV.below.off zo
 repeat refine zR ?_
 refine zN ?_
 rw [zc rfl]
 refine zN ?_
 repeat refine zR ?_
 refine qI P.length (P.length+m+3) R9 zo zo zo ?_
 rw [show 0+P.length*1=P.length from zo,show P.length+m+3-P.length=m+3 from zo]
 repeat refine zR ?_
 have hWs:Sl h6 (n3+1) 1 (.slice (some ⟨3*n1+2,P.length,none⟩) (m+3) (A.length+1-P.length)) (u64s (Z++[top])):=by
  have:=jv (h:=h6) (n:=n3+1) (b:=3*n1+2) (cap:=A.length+1-P.length) (P:=P) (Z:=Z++[top]) (S:=S) (e:=eR) zo (by rw [hr6];simp) (by rw [List.length_append,List.length_singleton];omega)
  rw [List.length_append,List.length_singleton,hZ] at this
  exact this
 refine yg _ R5 (kX k hWs hsV6 (m:=m) ⟨by rw [List.length_append,List.length_singleton,hZ],hVl,WdD.snoc hZd htl,nV.1,hVtop,hWlt⟩ zo) ?_
 rintro _ ⟨d,rfl,hdl,hd1,hd2⟩
 repeat refine zR ?_
 refine zN ?_
 repeat refine zR ?_
 refine qI P.length (P.length+(m+2)) R9 zo zo zo ?_
 rw [show 0+P.length*1=P.length from zo,show P.length+(m+2)-P.length=Z.length from zo]
 repeat refine zR ?_
 refine zu _ R5 (gm (k+2) (n:=n3+1) (b:=3*n1+2) zo hr6 zo hZd hsV6 nV.1 hVoff zo zo hdl) ?_
 rintro _ h7 _ w7 ⟨Z1,c,rfl,hcl,⟨hw7,rfl,hx7,hr7⟩,hZ1d,hZ1l,hsub⟩
 try simp only [sX]
 rw [yS (w:=[]) fun y hy=>by rw [hw7 y hy];show 3*n≤3*n1+2;omega]
 have hZ1:Z1.length=m+2:=zo
 rw [hZ] at hsub
 obtain ⟨g1,g2⟩:=zbt hZ1 hZ hZ1d hV0 hsub hd1 hd2
 have hq7:h7 (3*n3+2)=_:=(hx7 _ zo zo).trans hq6
 have hx17:Ext n1 h1 h7:=fun b hb=>by rw [hx7 b zo zo,hx6 b hb]
 clear hx7 hr6 hq6 hWs
 have hsV7:=(hsV.ext hx17 (show n1≤n3+1 by omega))
 have hlen7:∀t',(P++(Z1++t'::S)).length=A.length+1:=fun t'=>by simp only [List.length_append,List.length_cons];omega
 have hget:∀t',(P++(Z1++t'::S))[P.length+(m+2)]?=some t':=fun t'=>by
  rw [List.getElem?_append_right zo,show P.length+(m+2)-P.length=Z1.length from zo,List.getElem?_append_right (Nat.le_refl _),Nat.sub_self]
  rfl
 have hset:∀(Z2:List Nat) t' t'',Z2.length=m+2→(P++(Z2++t'::S)).set (P.length+(m+2)) t''=P++(Z2++t''::S):=fun Z2 t' t'' h2=>by
  rw [List.set_append_right _ _ zo,show P.length+(m+2)-P.length=Z2.length from zo,List.set_append_right _ _ (Nat.le_refl _),Nat.sub_self]
  rfl
 repeat refine zR ?_
 refine zN ?_
 repeat refine zR ?_
 refine z6 (f:=fun d:Nat=>Value.int .u64 (d:Int)) (j:=P.length+(m+2)) R7 (xJ (n:=n3+1) zo hr7 (hlen7 top)) ⟨rfl,zo⟩ (hget top) (fun _=>rfl) R4 fun _=>?_
 repeat refine zR ?_
 refine zN ?_
 refine zM ?_
 refine zM ?_
 refine zM ?_
 refine zR ?_
 refine zM ?_
 refine zM ?_
 refine y8 (a:=top) (b:=c) R6 ⟨htl,hcl⟩ ?_
 obtain ⟨tp,htp⟩:∃x,x=(top+18446744073709551616-c)%18446744073709551616:=⟨_,rfl⟩
 rw [←htp]
 have htpl:tp<18446744073709551616:=by rw [htp];exact Nat.mod_lt _ zd
 refine y5 (j:=P.length+(m+2)) (v:=.int .u64 (tp:Int)) R8 zo ⟨zo,by rw [zP,hlen7];omega⟩ hr7 (by show 3*n≤3*n1+2;omega) (fun _=>rfl) R3 (fun _=>rfl) rfl fun _=>?_
 rw [yo,hset Z1 top tp hZ1]
 generalize hh:upd h7 (3*n1+2) _=h8
 have hr8:h8 (3*n1+2)=some (.row (u64s (P++(Z1++tp::S))) eR):=by rw [←hh,ze]
 have hq8:h8 (3*n3+2)=some (.row (u64s (List.replicate (P.length+1) 0++Q)) eQ):=by rw [←hh,zh zo];exact hq7
 have hx8:Ext n1 h1 h8:=fun b hb=>by rw [←hh,zh zo,hx17 b hb]
 clear hh hr7 hq7 hx17 hsV7
 refine zN ?_
 refine zM ?_
 refine zM ?_
 refine pE R6 ?_
 simp only [zZ,yc,zk,yd]
 refine yI (α:=List Nat×Nat×Nat) (fun z=>[(8,.int .i64 ((m+2:Nat):Int)),(9,.int .u64 (s:Int)),(10,.slice aV (m+2) cV),(11,.slice (some ⟨3*n1+2,0,none⟩) (A.length+1) (A.length+1)),(12,.slice (some ⟨3*n3+2,0,none⟩) (M+1) (M+1)),(13,.int .i64 (P.length:Int)),(14,.int .u64 (z.2.2:Int))])
  (fun z h' n' w=>n'=n3+1∧w=[]∧Ext n1 h1 h'∧h' (3*n1+2)=some (.row (u64s (P++(z.1++z.2.1::S))) eR)∧h' (3*n3+2)=some (.row (u64s (List.replicate (P.length+1) 0++Q)) eQ)∧z.1.length=m+2∧WdD z.1∧z.2.1<18446744073709551616∧z.2.2=wv (Z++[top])/wv V∧z.2.2<18446744073709551616∧wv (z.1++[z.2.1])=wv (Z++[top])%wv V) ?_ ?_
 ·by_cases hlt2:top<c
  case neg=>
   obtain ⟨h1d,h2d⟩:=g1 zo
   rw [za (by show Value.bool _=_;rw [decide_eq_false zo])]
   refine zN ?_
   have htp':tp=top-c:=zo
   exact zS (Z1,tp,d) ⟨rfl,rfl,rfl,rfl,rfl,by show Value.int .i64 _=Value.int .i64 _;congr 1;omega,rfl,trivial⟩ ⟨rfl,rfl,hx8,hr8,hq8,hZ1,hZ1d,htpl,h1d,hdl,by simp only;rw [htp'];exact h2d⟩
  obtain ⟨h1d,h2d⟩:=g2 hlt2
  have hd1':1≤d:=by rw [h1d];exact Nat.le_add_left _ _
  rw [zc (by show Value.bool _=_;rw [decide_eq_true zo])]
  refine zN ?_
  refine zM ?_
  refine yb (a:=d) (b:=1) R6 zo ?_
  repeat refine zR ?_
  refine zN ?_
  repeat refine zR ?_
  refine zN ?_
  repeat refine zR ?_
  refine zN ?_
  refine zV (α:=List Nat×Nat) (fun z=>[(8,.int .i64 ((m+2:Nat):Int)),(9,.int .u64 (s:Int)),(10,.slice aV (m+2) cV),(11,.slice (some ⟨3*n1+2,0,none⟩) (A.length+1) (A.length+1)),(12,.slice (some ⟨3*n3+2,0,none⟩) (M+1) (M+1)),(13,.int .i64 (P.length:Int)),(14,.int .u64 ((d-1:Nat):Int)),(17,.int .u64 (z.2:Int)),(113,.slice aV (m+2) cV),(114,.int .i64 ((m+2:Nat):Int)),(115,.int .i64 (z.1.length:Int))])
   (fun z h' n' w=>n'=n3+1∧w=[]∧Ext n1 h1 h'∧h' (3*n1+2)=some (.row (u64s (P++((z.1++Z1.drop z.1.length)++tp::S))) eR)∧h' (3*n3+2)=some (.row (u64s (List.replicate (P.length+1) 0++Q)) eQ)∧z.1.length≤m+2∧WdD z.1∧z.2≤1∧wv z.1+z.2*18446744073709551616^z.1.length=wv (Z1.take z.1.length)+wv (V.take z.1.length)) (fun z=>m+2-z.1.length)
   ([],0) ⟨rfl,rfl,rfl,rfl,rfl,by show Value.int .i64 _=Value.int .i64 _;congr 1;omega,rfl,rfl,rfl,rfl,rfl,trivial⟩ ⟨rfl,rfl,hx8,hr8,hq8,Nat.zero_le _,WdD.nil,by show (0:Nat)≤1;decide,by simp [wv,dv]⟩ (by show m+2-0<LL;unfold LL;omega) ?_
  clear hr8 hq8 hx8
  rintro ⟨D,cc⟩ t h9 _ _ ⟨rfl,rfl,hx9,hr9,hq9,hDl,hDd,hcc,hV2⟩
  simp only at hr9 hDl hDd hcc hV2
  refine zN ?_
  by_cases hDm:D.length=m+2
  ·have hZd0:Z1.drop D.length=[]:=by rw [hDm,←hZ1,List.drop_length]
   rw [hZd0,List.append_nil] at hr9
   rw [hDm,←hZ1,List.take_length,hZ1,←hVl,List.take_length,hVl] at hV2
   repeat refine zR ?_
   refine zN ?_
   rw [za rfl]
   refine zN ?_
   have hDlt:=wQ hDd
   rw [hDm] at hDlt
   have hrlt:=Nat.mod_lt (wv (Z++[top])) hV0
   have hyc:c-top=1∧cc=1:=by
    obtain ⟨y,hy⟩:∃y,c-top=y+1:=⟨c-top-1,zo⟩
    rw [hy] at h2d ⊢
    rw [←h2d] at hV2
    generalize 18446744073709551616^(m+2)=PP at*
    have e1:(y+1)*PP=y*PP+PP:=by rw [Nat.add_mul,Nat.one_mul]
    rcases Nat.eq_zero_or_pos y with hy0|hy0
    ·subst hy0
     rcases Nat.eq_zero_or_pos cc with hc0|hc0
     ·subst hc0
      rw [Nat.zero_mul] at hV2
      omega
     exact ⟨rfl,zo⟩
    have e2:1*PP≤y*PP:=Nat.mul_le_mul_right _ hy0
    have e3:cc*PP≤1*PP:=Nat.mul_le_mul_right _ hcc
    omega
   obtain ⟨hy1',rfl⟩:=hyc
   have hDv:wv D=wv (Z++[top])%wv V:=by
    rw [←h2d,hy1'] at hV2
    omega
   have htp':tp=18446744073709551615:=zo
   subst htp'
   repeat refine zR ?_
   refine z6 (f:=fun d:Nat=>Value.int .u64 (d:Int)) (j:=P.length+(m+2)) R7 (xJ (n:=n3+1) (l:=A.length+1) zo hr9 (by simp only [List.length_append,List.length_cons];omega)) ⟨rfl,zo⟩ (show (P++(D++18446744073709551615::S))[P.length+(m+2)]?=some 18446744073709551615 from by rw [List.getElem?_append_right zo,show P.length+(m+2)-P.length=D.length from zo,List.getElem?_append_right (Nat.le_refl _),Nat.sub_self];rfl) (fun _=>rfl) R4 fun _=>?_
   refine zM ?_
   refine uj (a:=18446744073709551615) (b:=1) R6 ?_
   rw [show (18446744073709551615+1)%18446744073709551616=0 from rfl]
   refine y5 (j:=P.length+(m+2)) (v:=.int .u64 ((0:Nat):Int)) R8 zo ⟨zo,by rw [zP];simp only [List.length_append,List.length_cons];omega⟩ hr9 (by show 3*n≤3*n1+2;omega) (fun _=>rfl) R3 (fun _=>rfl) rfl fun _=>?_
   rw [yo,hset D _ 0 hDm]
   repeat refine zR ?_
   refine zN ?_
   exact zS (D,0,d-1) ⟨rfl,rfl,rfl,rfl,rfl,rfl,rfl,trivial⟩ ⟨rfl,rfl,fun b hb=>(zh zo).trans (hx9 b hb),ze _ _ _,(zh zo).trans hq9,hDm,hDd,by show (0:Nat)<_;decide,by show d-1=_;rw [h1d];exact Nat.add_sub_cancel _ _,by show d-1<_;omega,by show wv (D++[0])=_;rw [y7,Nat.mul_zero,Nat.add_zero,hDv]⟩
  obtain ⟨y,hy⟩:∃x,V[D.length]?=some x:=⟨V[D.length]'zo,List.getElem?_eq_getElem zo⟩
  obtain ⟨x,hx⟩:∃x,Z1[D.length]?=some x:=⟨Z1[D.length]'zo,List.getElem?_eq_getElem zo⟩
  have hyl:=nV.1.get hy
  have hxl:=hZ1d.get hx
  have hlen9:(P++((D++Z1.drop D.length)++tp::S)).length=A.length+1:=by simp only [List.length_append,List.length_cons,List.length_drop];omega
  repeat refine zR ?_
  refine zN ?_
  rw [zc rfl]
  refine zN ?_
  repeat refine zR ?_
  refine z6 (f:=fun d:Nat=>Value.int .u64 (d:Int)) (j:=D.length) R7 (hsV.ext hx9 (show n1≤n3+1 by omega)) R2 hy (fun _=>rfl) R4 fun _=>?_
  repeat refine zR ?_
  refine zN ?_
  repeat refine zR ?_
  refine z6 (f:=fun d:Nat=>Value.int .u64 (d:Int)) (j:=P.length+D.length) R7 (xJ (n:=n3+1) zo hr9 hlen9) ⟨rfl,zo⟩ (show (P++((D++Z1.drop D.length)++tp::S))[P.length+D.length]?=some x from by rw [List.getElem?_append_right zo,show P.length+D.length-P.length=D.length from zo,List.getElem?_append_left (by rw [List.length_append,List.length_drop];omega)];exact ut hx) (fun _=>rfl) R4 fun _=>?_
  repeat refine zR ?_
  refine uk (x:=x) (y:=y) (c:=cc) R5 hcc ?_
  obtain ⟨s1,hs1⟩:∃z,z=(x+y+cc)%18446744073709551616:=⟨_,rfl⟩
  obtain ⟨c1,hc1⟩:∃z,z=(x+y+cc)/18446744073709551616:=⟨_,rfl⟩
  rw [←hs1,←hc1]
  repeat refine zR ?_
  refine y5 (j:=P.length+D.length) (v:=.int .u64 (s1:Int)) R8 zo ⟨zo,by rw [zP,hlen9];omega⟩ hr9 (by show 3*n≤3*n1+2;omega) (fun _=>rfl) R3 (fun _=>rfl) rfl fun _=>?_
  rw [yo,o4 _ hx]
  repeat refine zR ?_
  refine zN ?_
  repeat refine zR ?_
  refine zN ?_
  have hsl:s1<18446744073709551616:=by rw [hs1];exact Nat.mod_lt _ zd
  have hcl1:c1≤1:=by rw [hc1];omega
  have hsc:18446744073709551616*c1+s1=x+y+cc:=by rw [hs1,hc1];omega
  refine goOn (D++[s1],c1) (by show m+2-(D++[s1]).length<m+2-D.length;rw [List.length_append,List.length_singleton];omega) ⟨rfl,rfl,rfl,rfl,rfl,rfl,rfl,rfl,rfl,rfl,by show Value.int .i64 _=Value.int .i64 _;rw [List.length_append];rfl,trivial⟩ ⟨rfl,rfl,fun b hb=>(zh zo).trans (hx9 b hb),ze _ _ _,(zh zo).trans hq9,by show (D++[s1]).length≤_;rw [List.length_append,List.length_singleton];omega,WdD.snoc hDd hsl,hcl1,?_⟩
  simp only
  rw [List.length_append,List.length_singleton,y7,zO hx,zO hy,Nat.pow_succ]
  have:=pA hV2 hsc
  omega
 rintro ⟨Zf,t',q⟩ t h9 _ _ ⟨rfl,rfl,hx9,hr9,hq9,hZf,hZfd,ht',hqe,hql,hmod⟩
 simp only at hr9 hZf hZfd ht' hqe hql hmod
 refine zN ?_
 repeat refine zR ?_
 refine y5 (j:=P.length) (v:=.int .u64 (q:Int)) R8 rfl ⟨zo,by rw [zP,List.length_append,List.length_replicate];omega⟩ hq9 (by show 3*n≤3*n3+2;omega) (fun _=>rfl) R3 (fun _=>rfl) rfl fun _=>?_
 rw [yo,jI]
 repeat refine zR ?_
 refine zN ?_
 repeat refine zR ?_
 refine zN ?_
 have hWW:wv (Zf++[t'])+wv V*q=wv (Z++[top]):=by rw [hmod,hqe,Nat.add_comm];exact Nat.div_add_mod _ _
 have hstep:=zfk (P:=P) (S:=S) (V:=V) (Q:=Q) (hZf.trans hZ.symm) hWW hE
 refine goOn (P.length,P++(Zf++t'::S),q::Q) (by show P.length<P.length+1;omega) ⟨rfl,rfl,rfl,rfl,rfl,rfl,trivial⟩ ⟨rfl,rfl,fun b hb=>(zh zo).trans (hx9 b hb),(zh zo).trans hr9,ze _ _ _,by simp only [List.length_append,List.length_cons];omega,hPd.append (hZfd.append (fun x hx=>by
  rcases List.mem_cons.1 hx with rfl|hx
  ·exact ht'
  ·exact hSd x hx)),by show P.length≤_;omega,by show (q::Q).length=_;rw [List.length_cons];omega,fun x hx=>by
  rcases List.mem_cons.1 hx with rfl|hx
  ·exact hql
  ·exact hQd x hx,hstep,?_⟩
 simp only
 rw [List.drop_left' rfl,show Zf++t'::S=(Zf++[t'])++S from by simp,uL,hS0,Nat.mul_zero,Nat.add_zero,hmod]
 exact Nat.mod_lt _ hV0
end
end Go.Proofs.YtlmbghgklnmlkaaGreatDoor
namespace Go.Proofs.YtlmbghgklnmlkaaGreatDoor
variable {B m r0 r1 u u0 u1 v1 v2:Nat}{odd:Bool}
def sg (odd:Bool):Int:=if odd then -1 else 1
theorem oa (o:Bool):sg (!o)= - sg o:=by cases o<;>rfl
theorem zgm (o:Bool):sg o*sg o=1:=by cases o<;>rfl
def lp (A B:Nat)(s:Int)(u v:Nat):Int:=s*((u:Int)*A-(v:Int)*B)
structure LehS (A B r0 r1 E:Nat):Prop where
 a:E*r0≤A∧A<E*r0+E
 b:E*r1≤B∧B<E*r1+E
 le:B≤A
 pos:1≤B
structure Leh (A B r0 r1:Nat)(x y u0 u1 u2 v0 v1 v2:Nat)(odd:Bool):Prop where
 hx:(x:Int)=lp r0 r1 (sg odd) u1 v1
 hy:(y:Int)=lp r0 r1 (- sg odd) u2 v2
 det:(u1:Int)*v2-u2*v1=sg odd
 le:u2≤v2∧u1+u2≤v1+v2∧1≤v2
 yx:y≤x
 gcd:Int.gcd (lp A B (sg odd) u1 v1) (lp A B (- sg odd) u2 v2)=Nat.gcd A B
 sum:(v1=0∧u1=1∧u2=0∧v2=1∧odd=false)∨(1≤v1∧lp A B (sg odd) u1 v1+lp A B (- sg odd) u2 v2≤A∧lp A B (sg odd) u1 v1≤B)
 out:v0=0∨(0≤lp A B (sg odd) u1 v1∧lp A B (sg odd) u1 v1≤lp A B (- sg odd) u0 v0∧Int.gcd (lp A B (- sg odd) u0 v0) (lp A B (sg odd) u1 v1)=Nat.gcd A B∧lp A B (- sg odd) u0 v0+lp A B (sg odd) u1 v1≤A∧lp A B (- sg odd) u0 v0≤B)
theorem Leh.init {A:Nat}(h:r1≤r0):Leh A B r0 r1 r0 r1 0 1 0 0 0 1 false:=by
 refine ⟨by simp [lp,sg],by simp [lp,sg],by simp [sg],zo,h,by simp [lp,sg],.inl ⟨rfl,rfl,rfl,rfl,rfl⟩,.inl rfl⟩
theorem zc3 {A E:Nat}(hs:LehS A B r0 r1 E){s:Int}(hs1:s=1∨s= -1){v z:Nat}(hz:(z:Int)=lp r0 r1 s u v)(hu:u≤m)(hv:v≤m)(hm:m≤z):0≤lp A B s u v:=by
 obtain ⟨α,hα⟩:∃α,A=E*r0+α:=⟨A-E*r0,by have:=hs.a;omega⟩
 obtain ⟨β,hβ⟩:∃β,B=E*r1+β:=⟨B-E*r1,by have:=hs.b;omega⟩
 have ha:α<E:=by have:=hs.a;omega
 have hb:β<E:=by have:=hs.b;omega
 have h1:u*α≤z*E:=Nat.mul_le_mul zo zo
 have h2:v*β≤z*E:=Nat.mul_le_mul zo zo
 have h1':(u:Int)*α≤z*E:=by exact_mod_cast h1
 have h2':(v:Int)*β≤z*E:=by exact_mod_cast h2
 have h3:(0:Int)≤(u:Int)*α:=by exact_mod_cast Nat.zero_le (u*α)
 have h4:(0:Int)≤(v:Int)*β:=by exact_mod_cast Nat.zero_le (v*β)
 have e:lp A B s u v=z*E+s*(u*α - v*β):=by
  rw [hz]
  unfold lp
  rw [hα,hβ]
  push_cast
  grind
 rw [e]
 rcases hs1 with rfl|rfl<;>omega
theorem zao (o:Bool):sg o=1∨sg o= -1:=by cases o<;>simp [sg]
theorem eO (o:Bool): - sg o=1∨ - sg o= -1:=by cases o<;>simp [sg]
theorem zc4 (A B:Nat)(s:Int)(u v u' v':Nat):lp A B s u v+lp A B s u' v'=lp A B s (u+u') (v+v'):=by
 unfold lp;push_cast;grind
theorem mE (A B:Nat)(s:Int)(u v:Nat):lp A B (- s) u v= - lp A B s u v:=by
 unfold lp;grind
theorem Leh.step {A E x y u2 v0:Nat}(hs:LehS A B r0 r1 E)(h:Leh A B r0 r1 x y u0 u1 u2 v0 v1 v2 odd)(c1:v2≤y)(c2:v1+v2≤x-y):
  Leh A B r0 r1 y (x%y) u1 u2 (u1+x/y*u2) v1 v2 (v1+x/y*v2) (!odd)∧u1+x/y*u2≤r0∧v1+x/y*v2≤r0∧x%y<y∧1≤y:=by
 obtain ⟨hx,hy,det,⟨l1,l2,l3⟩,yx,hg,hsum,hout⟩:=h
 have hy1:1≤y:=zo
 have hmod:x%y<y:=Nat.mod_lt _ hy1
 have hq1:1≤x/y:=(Nat.one_le_div_iff hy1).2 yx
 have hdm:x%y+x/y*y=x:=by rw [Nat.mul_comm];exact Nat.mod_add_div x y
 generalize hqq:x/y=q at*
 generalize hrr:x%y=r at*
 -- the pair at hand
 have p2:0≤lp A B (- sg odd) u2 v2:=zc3 hs (eO odd) hy l1 (Nat.le_refl _) c1
 have p12:0≤lp A B (sg odd) (u1+u2) (v1+v2):=by
  refine zc3 hs (zao odd) (z:=x-y) ?_ l2 (Nat.le_refl _) c2
  rw [←zc4,Int.natCast_sub yx,hx,hy,mE]
  omega
 rw [←zc4] at p12
 have hP2:lp A B (- sg odd) u2 v2= - lp A B (sg odd) u2 v2:=mE ..
 have hnew:lp A B (sg odd) (u1+q*u2) (v1+q*v2)=lp A B (sg odd) u1 v1-q*lp A B (- sg odd) u2 v2:=by
  rw [mE];unfold lp;push_cast;grind
 have hqP:lp A B (- sg odd) u2 v2≤q*lp A B (- sg odd) u2 v2:=by
  have:=Int.mul_le_mul_of_nonneg_right (show (1:Int)≤q by omega) p2
  omega
 have hr0:(r0:Int)=v2*x+v1*y:=by
  rw [hx,hy,mE]
  unfold lp
  have e1:=zgm odd
  rw [←det] at*
  grind
 have hr0':r0=v2*x+v1*y:=by exact_mod_cast hr0
 have hbv:v1+q*v2≤r0:=by
  rw [hr0',←hdm]
  have e1:v1≤v1*y:=Nat.le_mul_of_pos_right _ hy1
  have e2:q*v2≤q*v2*y:=Nat.le_mul_of_pos_right _ hy1
  have e3:v2*(r+q*y)=v2*r+q*v2*y:=by grind
  omega
 have hbu:u1+q*u2≤v1+q*v2:=by
  obtain ⟨p,rfl⟩:∃p,q=p+1:=⟨q-1,zo⟩
  have e1:p*u2≤p*v2:=Nat.mul_le_mul_left _ l1
  have e2:(p+1)*u2=p*u2+u2:=Nat.succ_mul _ _
  have e3:(p+1)*v2=p*v2+v2:=Nat.succ_mul _ _
  omega
 refine ⟨⟨?_,?_,?_,?_,Nat.le_of_lt hmod,?_,?_,?_⟩,Nat.le_trans hbu hbv,hbv,hmod,hy1⟩
 ·rw [oa];exact hy
 ·rw [oa,Int.neg_neg]
  have:(r:Int)=x-q*y:=by (have:(x:Int)=r+q*y:=by exact_mod_cast hdm.symm);omega
  rw [this,hx,hy]
  unfold lp;push_cast;grind
 ·rw [oa,←det];push_cast;grind
 ·refine ⟨hbu,zo,zo⟩
 ·rw [oa,Int.neg_neg,hnew,←hg]
  rw [Int.gcd_comm]
  simp [Int.mul_comm]
 ·right
  rw [oa,Int.neg_neg,hnew]
  rcases hsum with ⟨rfl,rfl,rfl,rfl,rfl⟩|⟨_,h2,h3⟩
  ·have eA:lp A B (sg false) 1 0=A:=by simp [lp,sg]
   have eB:lp A B (- sg false) 0 1=B:=by simp [lp,sg]
   rw [eB] at hqP
   rw [eA,eB]
   exact ⟨zo,zo,zo⟩
  exact ⟨zo,zo,zo⟩
 rw [oa,Int.neg_neg]
 rcases hsum with ⟨h1,_⟩|⟨_,h2,h3⟩
 ·exact .inl h1
 right
 exact ⟨p2,zo,hg,zo,h3⟩
theorem Leh.tot {A x y u2 v0:Nat}(h:Leh A B r0 r1 x y u0 u1 u2 v0 v1 v2 odd):r0=v2*x+v1*y:=by
 obtain ⟨hx,hy,det,_,_,_,_,_⟩:=h
 have hr0:(r0:Int)=v2*x+v1*y:=by
  rw [hx,hy,mE]
  unfold lp
  have e1:=zgm odd
  rw [←det] at*
  grind
 exact_mod_cast hr0
theorem LehS.r_le {A E:Nat}(h:LehS A B r0 r1 E):r1≤r0:=by
 rcases Nat.lt_or_ge r0 r1 with hl|hl
 ·have h1:=Nat.mul_le_mul_left E hl
  rw [Nat.mul_succ] at h1
  have:=h.a
  have:=h.b
  have:=h.le
  omega
 exact hl
theorem Leh.done {A x y u2 v0:Nat}(h:Leh A B r0 r1 x y u0 u1 u2 v0 v1 v2 odd)(hv:v0≠0):
  ∃a b:Nat,(odd=false→v0*B=u0*A+a∧u1*A=v1*B+b)∧(odd=true→u0*A=v0*B+a∧v1*B=u1*A+b)∧b≤a∧Nat.gcd a b=Nat.gcd A B∧a+b≤A∧a≤B:=by
 rcases h.out with h0|⟨h1,h2,h3,h4,h5⟩
 ·exact absurd h0 hv
 generalize e1:lp A B (sg odd) u1 v1=b at*
 generalize e2:lp A B (- sg odd) u0 v0=a at*
 obtain ⟨b',rfl⟩:=Int.eq_ofNat_of_zero_le h1
 obtain ⟨a',rfl⟩:=Int.eq_ofNat_of_zero_le (show (0:Int)≤a by omega)
 refine ⟨a',b',?_,?_,zo,by simpa using h3,zo,zo⟩
 ·rintro rfl
  simp only [lp,sg] at e1 e2
  constructor
  ·have:(v0:Int)*B=u0*A+a':=by simp at e2;grind
   exact_mod_cast this
  have:(u1:Int)*A=v1*B+b':=by simp at e1;grind
  exact_mod_cast this
 rintro rfl
 simp only [lp,sg] at e1 e2
 constructor
 ·have:(u0:Int)*A=v0*B+a':=by simp at e2;grind
  exact_mod_cast this
 have:(v1:Int)*B=u1*A+b':=by simp at e1;grind
 exact_mod_cast this
end Go.Proofs.YtlmbghgklnmlkaaGreatDoor
namespace Go.Proofs.YtlmbghgklnmlkaaGreatDoor
open Go Go.GL
variable {h h' h0:HF}{P U c1 c2 l1 l2 m n V b c' cq cr d u0 u1 v1 B len lo n' bb bt m' n0 off sz:Nat}{a1 a2:Option Addr}{A C X Z T L:List Nat}{eB xT ty:TypeId}{odd:Bool}{v:Value}{c args cl cs vs:List Value}{f:FuncId}{fn:Func}{q:Rat}
section
variable {s:Nat}
theorem pi (k:Nat)(hA:Sl h n 1 (.slice a1 l1 c1) (u64s A))(hC:Sl h n 1 (.slice a2 l2 c2) (u64s C))(nA:NW A)(nC:NW C)(hb:A.length<10000000∧C.length<80)(hC0:0<wv C):
  CF (cal (k+6)) 181 [.slice a1 l1 c1,.slice a2 l2 c2] h n fun v h' n' w=>∃vq vr Lq Lr,v=.tuple #[vq,vr]∧w=[]∧n≤n'∧Ext n h h'∧Sl h' n' 1 vq (u64s Lq)∧NW Lq∧Sl h' n' 1 vr (u64s Lr)∧NW Lr∧wv Lq=wv A/wv C∧wv Lr=wv A%wv C∧ym n vq∧(ym n vr∨vr=.slice a1 l1 c1):=by
 refine zr (fn:=Tryz.f181) R4 ?_
 have e1:=hA.lenW
 have e2:=hC.lenW
 subst e1 e2
 refine zN ?_
 repeat refine zR ?_
 refine zN ?_
 repeat refine zR ?_
 refine zN ?_
 rw [za rfl]
 refine zN ?_
 refine zM ?_
 refine zM ?_
 refine zu _ R5 (mO k hA hC nA nC zo hC0) ?_
 rintro _ h1 n1 _ ⟨vq,vr,Lq,Lr,rfl,rfl,hn1,hx1,hsq,hnq,hsr,hnr,hq,hr,hfq,hfr⟩
 obtain ⟨aq,lq,cq,rfl,_⟩:=hsq.len
 obtain ⟨ar,lr,cr,rfl,_⟩:=hsr.len
 repeat refine zR ?_
 refine zN ?_
 exact retH [.slice aq lq cq,.slice ar lr cr] R3 ⟨_,_,Lq,Lr,rfl,rfl,hn1,hx1,hsq,hnq,hsr,hnr,hq,hr,hfq,hfr⟩
theorem lP {x0 x1:Nat}(hU:U<P)(hs:s≤64):P*2^(64-s)*(x1*2^s+x0/2^(64-s))≤U+P*(x0+18446744073709551616*x1)∧U+P*(x0+18446744073709551616*x1)<P*2^(64-s)*(x1*2^s+x0/2^(64-s))+P*2^(64-s):=by
 have h1:=Nat.div_add_mod x0 (2^(64-s))
 have h2:=Nat.mod_lt x0 (Nat.pow_pos (n:=64-s) (show 0<2 by decide))
 have h3:=lM hs
 generalize 2^(64-s)=D at*
 generalize 2^s=S at*
 have e:x0+18446744073709551616*x1=D*(x1*S+x0/D)+x0%D:=by
  have h4:D*(x1*S)=18446744073709551616*x1:=by rw [Nat.mul_left_comm,←h3,Nat.mul_comm]
  rw [Nat.mul_add,h4]
  omega
 generalize x1*S+x0/D=R at*
 generalize x0%D=m at*
 rw [e,Nat.mul_add,←Nat.mul_assoc]
 have h4:=Nat.mul_le_mul_left P (show m+1≤D from h2)
 rw [Nat.mul_succ] at h4
 omega
theorem oK {x0 x1:Nat}(hl:X.length=m+2)(h0:X[m]?=some x0)(h1:X[m+1]?=some x1):wv X=wv (X.take m)+18446744073709551616^m*(x0+18446744073709551616*x1):=by
 have e:wv X=wv (X.take (m+2)):=by rw [←hl,List.take_length]
 rw [e,zO h1,zO h0,Nat.pow_succ,Nat.mul_add,Nat.mul_assoc,Nat.add_assoc]
theorem zdr {x0:Nat}(hl:X.length=m+1)(h0:X[m]?=some x0):wv X=wv (X.take m)+18446744073709551616^m*x0:=by
 have e:wv X=wv (X.take (m+1)):=by rw [←hl,List.take_length]
 rw [e,zO h0]
theorem u6 (hX:WdD X)(hm:m≤X.length):wv (X.take m)<18446744073709551616^m:=by
 have:=wQ (hX.take m)
 rw [List.length_take,Nat.min_eq_left hm] at this
 exact this
theorem zgg {x0 x1 y0 y1:Nat}(hA:A.length=m+2)(hC:C.length=m+2)(dA:WdD A)(hx0:A[m]?=some x0)(hx1:A[m+1]?=some x1)(hy0:C[m]?=some y0)(hy1:C[m+1]?=some y1)(hle:wv C≤wv A):y1≤x1:=by
 rcases Nat.lt_or_ge x1 y1 with h|h
 ·have h1:=u6 dA (m:=m) zo
  have h2:=dA.get hx0
  rw [oK hA hx0 hx1,oK hC hy0 hy1] at hle
  generalize 18446744073709551616^m=P at*
  have h3:x0+18446744073709551616*x1+1≤y0+18446744073709551616*y1:=zo
  have h4:=Nat.mul_le_mul_left P h3
  rw [Nat.mul_succ] at h4
  omega
 exact h
def SimR (A B:Nat)(v:Value):Prop:=∃x y u0 u1 u2 v0 v1 v2 r0 r1:Nat,∃odd:Bool,v=.agg #[.int .u64 (u0:Int),.int .u64 (u1:Int),.int .u64 (v0:Int),.int .u64 (v1:Int),.bool odd]∧Leh A B r0 r1 x y u0 u1 u2 v0 v1 v2 odd∧u0≤18446744073709551615∧u1≤18446744073709551615∧v0≤18446744073709551615∧v1≤18446744073709551615
structure LSt where
 x:Nat
 y:Nat
 u0:Nat
 u1:Nat
 u2:Nat
 v0:Nat
 v1:Nat
 v2:Nat
 odd:Bool
def LSt.row (z:LSt):List Value:=[.int .u64 (z.u0:Int),.int .u64 (z.u1:Int),.int .u64 (z.v0:Int),.int .u64 (z.v1:Int),.bool z.odd]
def LSt.bd (z:LSt):Prop:=z.x≤18446744073709551615∧z.u0≤18446744073709551615∧z.u1≤18446744073709551615∧z.u2≤18446744073709551615∧z.v0≤18446744073709551615∧z.v1≤18446744073709551615∧z.v2≤18446744073709551615
theorem kf (k:Nat)(hA:Sl h n 1 (.slice a1 l1 c1) (u64s A))(hC:Sl h n 1 (.slice a2 l2 c2) (u64s C))(nA:NW A)(nC:NW C)(hb:A.length<10000000)(hle:wv C≤wv A)(hA2:2≤A.length)(hC0:0<wv C):
  CF (cal (k+3)) 180 [.slice a1 l1 c1,.slice a2 l2 c2] h n fun v h' n' w=>w=[]∧n≤n'∧Ext n h h'∧SimR (wv A) (wv C) v:=by
 refine zr (fn:=Tryz.f180) R4 ?_
 have e1:=hA.lenW
 have e2:=hC.lenW
 subst e1 e2
 have hCA:C.length≤A.length:=by
  rcases Nat.lt_or_ge A.length C.length with hl|hl
  ·have:=nA.len_lt nC hl;omega
  exact hl
 obtain ⟨m,hm⟩:∃m,A.length=m+2:=⟨A.length-2,zo⟩
 obtain ⟨x1,hx1⟩:∃x,A[m+1]?=some x:=⟨A[m+1]'zo,List.getElem?_eq_getElem zo⟩
 obtain ⟨x0,hx0⟩:∃x,A[m]?=some x:=⟨A[m]'zo,List.getElem?_eq_getElem zo⟩
 have hx1l:=nA.1.get hx1
 have hx0l:=nA.1.get hx0
 have hx10:x1≠0:=by
  obtain ⟨i,d,hid⟩:=Go.Proofs.YtlmbghgklnmlkaaGreatDoor.snoc (l:=A) (by intro e;rw [e] at hm;simp at hm)
  have hil:i.length=m+1:=by rw [hid] at hm;simp at hm;omega
  rw [hid,←hil,List.getElem?_append_right (Nat.le_refl _),Nat.sub_self] at hx1
  have:d=x1:=by simpa using hx1
  rw [←this]
  exact NW.last (by rw [←hid];exact nA)
 rw [hm] at hA ⊢
 refine zN ?_
 refine yp R5 ?_
 generalize hh:upd h (3*n+2) _=h1
 have hE1:Ext n h h1:=by rw [←hh];exact Ext.upd zo
 have q1:∃e,h1 (3*n+2)=some (.row [.int .u64 0,.int .u64 0,.int .u64 0,.int .u64 0,.bool false] e):=⟨_,by rw [←hh,ze];rfl⟩
 clear hh
 have hA1:=hA.ext hE1 (Nat.le_succ n)
 have hC1:=hC.ext hE1 (Nat.le_succ n)
 refine zN ?_
 repeat refine zR ?_
 refine zN ?_
 repeat refine zR ?_
 refine z6 (f:=fun d:Nat=>Value.int .u64 (d:Int)) (j:=m+1) R7 hA1 ⟨rfl,zo⟩ hx1 (fun _=>rfl) R4 fun _=>?_
 refine yg _ R5 (kx k h1 (n+1) hx1l hx10) ?_
 rintro _ ⟨s,rfl,hs64,hs1,hs2⟩
 refine yQ (c:=s) R7 zo ?_
 repeat refine zR ?_
 refine zN ?_
 have hlo:∀x,x<18446744073709551616→x/2^(64-s)<2^s:=fun x hx=>zcr zo hx
 obtain ⟨r0,hr0⟩:∃r,r=x1*2^s+x0/2^(64-s):=⟨_,rfl⟩
 have hr0l:r0≤18446744073709551615:=by
  have:=eM (w:=x1) (s:=s) zo (hlo x0 hx0l)
  rw [Nat.mod_eq_of_lt hs2] at this
  omega
 obtain ⟨E,hE⟩:∃E,E=18446744073709551616^m*2^(64-s):=⟨_,rfl⟩
 have hcutA:=lP (U:=wv (A.take m)) (x0:=x0) (x1:=x1) (s:=s) (u6 nA.1 zo) zo
 rw [←oK hm hx0 hx1,←hE,←hr0] at hcutA
 rw [xf rfl]
 repeat refine zR ?_
 refine z6 (f:=fun d:Nat=>Value.int .u64 (d:Int)) (j:=m+1) R7 hA1 ⟨rfl,zo⟩ hx1 (fun _=>rfl) R4 fun _=>?_
 refine zM ?_
 refine yz (a:=x1) (s:=s) R6 zo ?_
 rw [Nat.mod_eq_of_lt hs2]
 repeat refine zR ?_
 refine z6 (f:=fun d:Nat=>Value.int .u64 (d:Int)) (j:=m) R7 hA1 ⟨rfl,zo⟩ hx0 (fun _=>rfl) R4 fun _=>?_
 refine zM ?_
 refine yb (a:=64) (b:=s) R6 zo ?_
 refine z7 (a:=x0) (s:=64-s) R6 zo ?_
 refine xp (a:=x1*2^s) (b:=x0/2^(64-s)) R6 ⟨hs2,Nat.lt_of_le_of_lt (Nat.div_le_self _ _) hx0l⟩ ?_
 rw [mw (hlo x0 hx0l),←hr0]
 repeat refine zR ?_
 refine zN ?_
 repeat refine zR ?_
 refine zN ?_
 repeat refine zR ?_
 simp only [zZ,yc,zk,yd]
 refine yI (α:=Nat) (fun z=>[(4,.pointer (some ⟨3*n+2,0,none⟩)),(7,.int .u64 (r0:Int)),(8,.int .u64 (z:Int))])
  (fun z h' n' w=>h1=h'∧n+1=n'∧w=[]∧LehS (wv A) (wv C) r0 z E) ?_ ?_
 ·refine zN ?_
  by_cases hl2:C.length=m+2
  ·obtain ⟨y1,hy1⟩:∃x,C[m+1]?=some x:=⟨C[m+1]'zo,List.getElem?_eq_getElem zo⟩
   obtain ⟨y0,hy0⟩:∃x,C[m]?=some x:=⟨C[m]'zo,List.getElem?_eq_getElem zo⟩
   have hy1l:=nC.1.get hy1
   have hy0l:=nC.1.get hy0
   have hyx:=zgg hm hl2 nA.1 hx0 hx1 hy0 hy1 hle
   have hys:y1*2^s<18446744073709551616:=Nat.lt_of_le_of_lt (Nat.mul_le_mul_right _ hyx) hs2
   have hcutC:=lP (U:=wv (C.take m)) (x0:=y0) (x1:=y1) (s:=s) (u6 nC.1 zo) zo
   rw [←oK hl2 hy0 hy1,←hE] at hcutC
   repeat refine zR ?_
   refine zN ?_
   rw [zc rfl]
   rw [xf rfl]
   repeat refine zR ?_
   refine z6 (f:=fun d:Nat=>Value.int .u64 (d:Int)) (j:=m+1) R7 hC1 ⟨rfl,zo⟩ hy1 (fun _=>rfl) R4 fun _=>?_
   refine zM ?_
   refine yz (a:=y1) (s:=s) R6 zo ?_
   rw [Nat.mod_eq_of_lt hys]
   repeat refine zR ?_
   refine z6 (f:=fun d:Nat=>Value.int .u64 (d:Int)) (j:=m) R7 hC1 ⟨rfl,zo⟩ hy0 (fun _=>rfl) R4 fun _=>?_
   refine zM ?_
   refine yb (a:=64) (b:=s) R6 zo ?_
   refine z7 (a:=y0) (s:=64-s) R6 zo ?_
   refine xp (a:=y1*2^s) (b:=y0/2^(64-s)) R6 ⟨hys,Nat.lt_of_le_of_lt (Nat.div_le_self _ _) hy0l⟩ ?_
   rw [mw (hlo y0 hy0l)]
   repeat refine zR ?_
   refine zN ?_
   exact zS (y1*2^s+y0/2^(64-s)) ⟨rfl,rfl,rfl,trivial⟩ ⟨rfl,rfl,rfl,⟨hcutA,hcutC,hle,hC0⟩⟩
  repeat refine zR ?_
  refine zN ?_
  rw [za rfl]
  refine zN ?_
  by_cases hl1:C.length=m+1
  ·obtain ⟨y0,hy0⟩:∃x,C[m]?=some x:=⟨C[m]'zo,List.getElem?_eq_getElem zo⟩
   have hy0l:=nC.1.get hy0
   have hcutC:=lP (U:=wv (C.take m)) (x0:=y0) (x1:=0) (s:=s) (u6 nC.1 zo) zo
   rw [Nat.mul_zero,Nat.add_zero,Nat.zero_mul,Nat.zero_add,←zdr hl1 hy0,←hE] at hcutC
   repeat refine zR ?_
   refine zN ?_
   rw [zc rfl]
   refine zN ?_
   repeat refine zR ?_
   refine z6 (f:=fun d:Nat=>Value.int .u64 (d:Int)) (j:=m) R7 hC1 ⟨rfl,zo⟩ hy0 (fun _=>rfl) R4 fun _=>?_
   refine zM ?_
   refine yb (a:=64) (b:=s) R6 zo ?_
   refine z7 (a:=y0) (s:=64-s) R6 zo ?_
   repeat refine zR ?_
   refine zN ?_
   exact zS (y0/2^(64-s)) ⟨rfl,rfl,rfl,trivial⟩ ⟨rfl,rfl,rfl,⟨hcutA,hcutC,hle,hC0⟩⟩
  repeat refine zR ?_
  refine zN ?_
  rw [za rfl]
  refine zN ?_
  refine zS 0 ⟨rfl,rfl,rfl,trivial⟩ ⟨rfl,rfl,rfl,⟨hcutA,⟨by rw [Nat.mul_zero];exact Nat.zero_le _,?_⟩,hle,hC0⟩⟩
  have g1:=wQ nC.1
  have g2:18446744073709551616^C.length≤18446744073709551616^m:=Nat.pow_le_pow_right zd zo
  have g3:18446744073709551616^m*1≤18446744073709551616^m*2^(64-s):=Nat.mul_le_mul_left _ (Nat.pow_pos zd)
  rw [hE,Nat.mul_zero]
  omega
 clear hcutA hE hr0 hlo hA1 hC1
 rintro r1 t _ _ _ ⟨rfl,rfl,rfl,hS⟩
 have hr10:=hS.r_le
 refine zN ?_
 refine yp R5 ?_
 generalize hh:upd h1 (3*(n+1)+2) _=h2
 have hE2:Ext n h h2:=fun b hb=>by rw [←hh,zh zo,hE1 b hb]
 have q1':∃e,h2 (3*n+2)=some (.row [.int .u64 0,.int .u64 0,.int .u64 0,.int .u64 0,.bool false] e):=by
  obtain ⟨e,q1⟩:=q1
  exact ⟨e,by rw [←hh,zh zo];exact q1⟩
 have q2:∃e,h2 (3*(n+1)+2)=some (.row [.int .u64 0,.int .u64 0,.int .u64 0,.int .u64 0,.bool false] e):=⟨_,by rw [←hh,ze];rfl⟩
 obtain ⟨e2,q2⟩:=q2
 clear hh
 refine zN ?_
 repeat refine zR ?_
 refine yC (cs:=[.int .u64 1]) R8 q2 zb (by show 3*n≤3*(n+1)+2;omega) ?_
 generalize hh:upd h2 (3*(n+1)+2) _=h3
 have hE3:Ext n h h3:=fun b hb=>by rw [←hh,zh zo,hE2 b hb]
 have q1'':∃e,h3 (3*n+2)=some (.row [.int .u64 0,.int .u64 0,.int .u64 0,.int .u64 0,.bool false] e):=by
  obtain ⟨e,q1'⟩:=q1'
  exact ⟨e,by rw [←hh,zh zo];exact q1'⟩
 have q3:∃e,h3 (3*(n+1)+2)=some (.row (LSt.row ⟨r0,r1,0,1,0,0,0,1,false⟩) e):=⟨e2,by rw [←hh,ze];rfl⟩
 clear hh q2 q1'
 refine zN ?_
 repeat refine zR ?_
 refine zN ?_
 refine zV (α:=LSt) (fun z=>[(4,.pointer (some ⟨3*n+2,0,none⟩)),(7,.int .u64 (z.x:Int)),(8,.int .u64 (z.y:Int)),(9,.pointer (some ⟨3*(n+1)+2,0,none⟩)),(10,.int .u64 (z.u2:Int)),(11,.int .u64 (z.v2:Int))])
  (fun z h' n' w=>n'=n+1+1∧w=[]∧Ext n h h'∧(∃e,h' (3*n+2)=some (.row [.int .u64 0,.int .u64 0,.int .u64 0,.int .u64 0,.bool false] e))∧(∃e,h' (3*(n+1)+2)=some (.row z.row e))∧Leh (wv A) (wv C) r0 r1 z.x z.y z.u0 z.u1 z.u2 z.v0 z.v1 z.v2 z.odd∧z.bd) (fun z=>z.y)
  ⟨r0,r1,0,1,0,0,0,1,false⟩ ⟨rfl,rfl,rfl,rfl,rfl,rfl,trivial⟩ ⟨rfl,rfl,hE3,q1'',q3,Leh.init hr10,hr0l,(show (0:Nat)≤18446744073709551615 by decide),(show (1:Nat)≤18446744073709551615 by decide),(show (0:Nat)≤18446744073709551615 by decide),(show (0:Nat)≤18446744073709551615 by decide),(show (0:Nat)≤18446744073709551615 by decide),(show (1:Nat)≤18446744073709551615 by decide)⟩ (by show r1<LL;unfold LL;omega) ?_
 clear hE1 hE2 hE3 q1 q1'' q3
 rintro ⟨x,y,u0,u1,u2,v0,v1,v2,odd⟩ t h4 _ _ ⟨rfl,rfl,hE4,⟨e1,q1⟩,⟨e4,q4⟩,hL,hbd⟩
 obtain ⟨b1,b2,b3,b4,b5,b6,b7⟩:=hbd
 simp only [LSt.row] at q4 hL b1 b2 b3 b4 b5 b6 b7
 have hyx:=hL.yx
 have htot:=hL.tot
 have hl:=hL.le
 refine zN ?_
 by_cases g1:v2≤y
 case neg=>
  repeat refine zR ?_
  refine zN ?_
  rw [za rfl]
  refine zN ?_
  refine zK (v:=.agg #[.int .u64 (u0:Int),.int .u64 (u1:Int),.int .u64 (v0:Int),.int .u64 (v1:Int),.bool odd]) R5 (zL R2 q4 rfl zb rfl) ?_
  refine zI [.int .u64 (u0:Int),.int .u64 (u1:Int),.int .u64 (v0:Int),.int .u64 (v1:Int),.bool odd] R7 rfl q1 rfl (by show 3*n≤3*n+2;omega) ?_
  refine zN ?_
  exact wp R5 (ze _ _ _) rfl ⟨rfl,by show n≤n+1+1;omega,fun b hb=>(zh zo).trans (hE4 b hb),⟨x,y,u0,u1,u2,v0,v1,v2,r0,r1,odd,rfl,hL,b2,b3,b5,b6⟩⟩
 have hsum:v1+v2≤r0:=by
  have f1:v2*1≤v2*x:=Nat.mul_le_mul_left _ zo
  have f2:v1*1≤v1*y:=Nat.mul_le_mul_left _ zo
  omega
 refine zM ?_
 refine zM ?_
 refine zR ?_
 refine zM ?_
 refine zM ?_
 refine zM ?_
 refine yb (a:=x) (b:=y) R6 zo ?_
 refine zM ?_
 refine zC R6 q4 (v:=.int .u64 (v1:Int)) R2 ?_
 refine zM ?_
 refine yA (a:=v1) (b:=v2) R6 zo ?_
 by_cases g2:v1+v2≤x-y
 case neg=>
  repeat refine zR ?_
  refine zN ?_
  rw [za rfl]
  refine zN ?_
  refine zK (v:=.agg #[.int .u64 (u0:Int),.int .u64 (u1:Int),.int .u64 (v0:Int),.int .u64 (v1:Int),.bool odd]) R5 (zL R2 q4 rfl zb rfl) ?_
  refine zI [.int .u64 (u0:Int),.int .u64 (u1:Int),.int .u64 (v0:Int),.int .u64 (v1:Int),.bool odd] R7 rfl q1 rfl (by show 3*n≤3*n+2;omega) ?_
  refine zN ?_
  exact wp R5 (ze _ _ _) rfl ⟨rfl,by show n≤n+1+1;omega,fun b hb=>(zh zo).trans (hE4 b hb),⟨x,y,u0,u1,u2,v0,v1,v2,r0,r1,odd,rfl,hL,b2,b3,b5,b6⟩⟩
 obtain ⟨hL',hu',hv',hm',hy1⟩:=Leh.step hS hL g1 g2
 repeat refine zR ?_
 refine zN ?_
 rw [zc rfl]
 refine zN ?_
 obtain ⟨q,hq⟩:∃q,q=x/y:=⟨_,rfl⟩
 obtain ⟨r,hr⟩:∃r,r=x%y:=⟨_,rfl⟩
 rw [←hq] at hL' hu' hv'
 rw [←hr] at hL' hm'
 refine zM ?_
 refine zM ?_
 refine xg (a:=x) (b:=y) R6 ⟨zo,zo⟩ ?_
 rw [←hq]
 repeat refine zR ?_
 refine zN ?_
 rw [xf rfl]
 refine zM ?_
 refine zM ?_
 refine zM ?_
 refine wm (a:=x) (b:=y) R6 zo ?_
 rw [←hr]
 repeat refine zR ?_
 refine zN ?_
 refine zM ?_
 refine zC R6 q4 (v:=.int .u64 (u1:Int)) R2 ?_
 refine zM ?_
 refine zM ?_
 refine zC R6 q4 (v:=.int .u64 (u1:Int)) R2 ?_
 refine zM ?_
 refine zM ?_
 refine yK (a:=q) (b:=u2) R6 zo ?_
 refine yA (a:=u1) (b:=q*u2) R6 zo ?_
 refine zM ?_
 refine yC (cs:=[.int .u64 (u1:Int)]) R8 q4 zb (by show 3*n≤3*(n+1)+2;omega) ?_
 refine zM ?_
 refine yC (cs:=[.int .u64 (u2:Int)]) R8 (ze _ _ _) zb (by show 3*n≤3*(n+1)+2;omega) ?_
 rw [xC]
 generalize hh:upd h4 (3*(n+1)+2) _=h5
 have hE5:Ext n h h5:=fun b hb=>by rw [←hh,zh zo,hE4 b hb]
 have q15:=(show h5 (3*n+2)=h4 (3*n+2) from by rw [←hh,zh zo]).trans q1
 have q5:h5 (3*(n+1)+2)=some (.row [.int .u64 (u1:Int),.int .u64 (u2:Int),.int .u64 (v0:Int),.int .u64 (v1:Int),.bool odd] e4):=by rw [←hh,ze];rfl
 clear hh q4 q1 hE4
 repeat refine zR ?_
 refine zN ?_
 refine zM ?_
 refine zC R6 q5 (v:=.int .u64 (v1:Int)) R2 ?_
 refine zM ?_
 refine zM ?_
 refine zC R6 q5 (v:=.int .u64 (v1:Int)) R2 ?_
 refine zM ?_
 refine zM ?_
 refine yK (a:=q) (b:=v2) R6 zo ?_
 refine yA (a:=v1) (b:=q*v2) R6 zo ?_
 refine zM ?_
 refine yC (cs:=[.int .u64 (v1:Int)]) R8 q5 zb (by show 3*n≤3*(n+1)+2;omega) ?_
 refine zM ?_
 refine yC (cs:=[.int .u64 (v2:Int)]) R8 (ze _ _ _) zb (by show 3*n≤3*(n+1)+2;omega) ?_
 rw [xC]
 generalize hh:upd h5 (3*(n+1)+2) _=h6
 have hE6:Ext n h h6:=fun b hb=>by rw [←hh,zh zo,hE5 b hb]
 have q16:=(show h6 (3*n+2)=h5 (3*n+2) from by rw [←hh,zh zo]).trans q15
 have q6:h6 (3*(n+1)+2)=some (.row [.int .u64 (u1:Int),.int .u64 (u2:Int),.int .u64 (v1:Int),.int .u64 (v2:Int),.bool odd] e4):=by rw [←hh,ze];rfl
 clear hh q5 q15 hE5
 repeat refine zR ?_
 refine zN ?_
 refine zM ?_
 refine zC R6 q6 (v:=.bool odd) R2 ?_
 refine zM ?_
 refine zM ?_
 refine yC (cs:=[.bool (!odd)]) R8 q6 zb (by show 3*n≤3*(n+1)+2;omega) ?_
 refine zN ?_
 exact goOn ⟨y,r,u1,u2,u1+q*u2,v1,v2,v1+q*v2,!odd⟩ hm' ⟨rfl,rfl,rfl,rfl,rfl,rfl,trivial⟩ ⟨rfl,rfl,fun b hb=>(zh zo).trans (hE6 b hb),⟨e1,(zh zo).trans q16⟩,⟨e4,(ze _ _ _).trans rfl⟩,hL',by show y≤_;omega,b3,b4,by show u1+q*u2≤_;omega,b6,b7,by show v1+q*v2≤_;omega⟩
end
section
variable {a:Nat}{cap:Nat}{l:Nat}{s:Nat}{e:TypeId}
theorem na {x w c:Nat}(hV:V+c*P=U*w)(hs:18446744073709551616*c'+s=x*w+c):V+P*s+c'*(P*18446744073709551616)=(U+P*x)*w:=by
 have:=jS (P:=P) (V:=V) (U:=0) (W:=U) (z:=0) (v:=x) (w:=w) (c:=c) (s:=s) (c':=c') (by rw [hV,Nat.zero_add]) (by rw [hs,Nat.zero_add])
 rw [Nat.mul_zero,Nat.add_zero,Nat.zero_add] at this
 exact this
theorem za9 {t:Nat}(h:d+s*P=a+t*P)(hd:d<P)(ha:a<P):d=a:=by
 have:=congrArg (· %P) h
 simp only [Nat.add_mul_mod_self_right,Nat.mod_eq_of_lt hd,Nat.mod_eq_of_lt ha] at this
 exact this
theorem nK {D p q cP cQ b1 XA XB:Nat}(h1:p+cP*P=XA)(h2:q+cQ*P=XB)(h3:D+p=q+b1*P)(h4:XB=XA+a)(hD:D<P)(ha:a<P):D=a:=by
 refine za9 (s:=cQ) (t:=b1+cP) (P:=P) ?_ hD ha
 rw [Nat.add_mul]
 omega
theorem jH {S D:List Nat}{x:Nat}(d:Nat)(hx:Z[D.length]?=some x):((D++Z.drop D.length)++S).set D.length d=((D++[d])++Z.drop (D++[d]).length)++S:=by
 have:=o4 (P:=[]) (S:=S) d hx
 rw [List.nil_append,List.nil_append,List.length_nil,Nat.zero_add] at this
 exact this
theorem nk {S:List Nat}(hb:b<3*n)(hr:h b=some (.row (u64s (Z++S)) e))(hl:Z.length=l)(hc:l≤cap):Sl h n 1 (.slice (some ⟨b,0,none⟩) l cap) (u64s Z):=by
 subst hl
 exact jv (P:=[]) hb hr hc
structure ASt where
 D:List Nat
 F:List Nat
 cP:Nat
 cQ:Nat
 cR:Nat
 cT:Nat
 b1:Nat
 b2:Nat
 p:Nat
 q:Nat
 r:Nat
 t:Nat
def ASt.ok (A B:List Nat)(u0 u1 v0 v1:Nat)(odd:Bool)(z:ASt):Prop:=
 z.D.length≤A.length∧z.F.length=z.D.length∧WdD z.D∧WdD z.F∧z.cP<18446744073709551616∧z.cQ<18446744073709551616∧z.cR<18446744073709551616∧z.cT<18446744073709551616∧z.b1≤1∧z.b2≤1∧
 z.p+z.cP*18446744073709551616^z.D.length=wv (A.take z.D.length)*u0∧z.q+z.cQ*18446744073709551616^z.D.length=wv (B.take z.D.length)*v0∧z.r+z.cR*18446744073709551616^z.D.length=wv (B.take z.D.length)*v1∧z.t+z.cT*18446744073709551616^z.D.length=wv (A.take z.D.length)*u1∧
 (odd=false→wv z.D+z.p=z.q+z.b1*18446744073709551616^z.D.length∧wv z.F+z.r=z.t+z.b2*18446744073709551616^z.D.length)∧
 (odd=true→wv z.D+z.q=z.p+z.b1*18446744073709551616^z.D.length∧wv z.F+z.t=z.r+z.b2*18446744073709551616^z.D.length)
theorem ASt.step {B:List Nat}{v0 x y:Nat}{z:ASt}(hz:z.ok A B u0 u1 v0 v1 odd)(hx:A[z.D.length]?=some x)(hy:B[z.D.length]?=some y){sp sq sr st cp ct f e1 e2:Nat}
  (h1:18446744073709551616*cp+sp=x*u0+z.cP)(h2:18446744073709551616*cq+sq=y*v0+z.cQ)(h3:18446744073709551616*cr+sr=y*v1+z.cR)(h4:18446744073709551616*ct+st=x*u1+z.cT)
  (hl:cp<18446744073709551616∧cq<18446744073709551616∧cr<18446744073709551616∧ct<18446744073709551616∧d<18446744073709551616∧f<18446744073709551616∧e1≤1∧e2≤1)
  (g1:odd=false→d+sp+z.b1=sq+18446744073709551616*e1∧f+sr+z.b2=st+18446744073709551616*e2)(g2:odd=true→d+sq+z.b1=sp+18446744073709551616*e1∧f+st+z.b2=sr+18446744073709551616*e2):
  ASt.ok A B u0 u1 v0 v1 odd ⟨z.D++[d],z.F++[f],cp,cq,cr,ct,e1,e2,z.p+18446744073709551616^z.D.length*sp,z.q+18446744073709551616^z.D.length*sq,z.r+18446744073709551616^z.D.length*sr,z.t+18446744073709551616^z.D.length*st⟩:=by
 obtain ⟨k1,k2,k3,k4,k5,k6,k7,k8,k9,k10,k11,k12,k13,k14,k15,k16⟩:=hz
 obtain ⟨l1,l2,l3,l4,l5,l6,l7,l8⟩:=hl
 have hxl:z.D.length<A.length:=(List.getElem?_eq_some_iff.1 hx).1
 unfold ASt.ok
 simp only [List.length_append,List.length_singleton]
 rw [zO hx,zO hy,y7,y7,k2,Nat.pow_succ]
 refine ⟨zo,rfl,WdD.snoc k3 l5,WdD.snoc k4 l6,l1,l2,l3,l4,l7,l8,na k11 h1,na k12 h2,na k13 h3,na k14 h4,fun ho=>?_,fun ho=>?_⟩
 ·obtain ⟨m1,m2⟩:=k15 ho
  obtain ⟨m3,m4⟩:=g1 ho
  exact ⟨vK m1 m3,vK m2 m4⟩
 obtain ⟨m1,m2⟩:=k16 ho
 obtain ⟨m3,m4⟩:=g2 ho
 exact ⟨vK m1 m3,vK m2 m4⟩
theorem ASt.fin {B:List Nat}{v0:Nat}{z:ASt}(hz:z.ok A B u0 u1 v0 v1 odd)(hl:z.D.length=A.length)(hB:B.length=A.length)(ha:a<18446744073709551616^A.length)(hb:b<18446744073709551616^A.length)(hE:odd=false→v0*wv B=u0*wv A+a∧u1*wv A=v1*wv B+b)(hO:odd=true→u0*wv A=v0*wv B+a∧v1*wv B=u1*wv A+b):
  wv z.D=a∧wv z.F=b:=by
 obtain ⟨k1,k2,k3,k4,k5,k6,k7,k8,k9,k10,k11,k12,k13,k14,k15,k16⟩:=hz
 have w1:=wQ k3
 have w2:=wQ k4
 rw [k2] at w2
 rw [hl] at k11 k12 k13 k14 k15 k16 w1 w2
 have tA:A.take A.length=A:=List.take_length
 have tB:B.take A.length=B:=by rw [←hB,List.take_length]
 rw [tA] at k11 k14
 rw [tB] at k12 k13
 cases odd with
 |false=>
  obtain ⟨m1,m2⟩:=k15 rfl
  obtain ⟨m3,m4⟩:=hE rfl
  exact ⟨nK k11 k12 m1 (by rw [Nat.mul_comm _ v0,m3,Nat.mul_comm u0]) w1 ha,nK k13 k14 m2 (by rw [Nat.mul_comm _ u1,m4,Nat.mul_comm v1]) w2 hb⟩
 |true=>
  obtain ⟨m1,m2⟩:=k16 rfl
  obtain ⟨m3,m4⟩:=hO rfl
  exact ⟨nK k12 k11 m1 (by rw [Nat.mul_comm _ u0,m3,Nat.mul_comm v0]) w1 ha,nK k14 k13 m2 (by rw [Nat.mul_comm _ v1,m4,Nat.mul_comm u1]) w2 hb⟩
theorem zcb (k:Nat){bA bB cA cB:Nat}{B TA TB:List Nat}{eA:TypeId}{v0:Nat}(hbA:bA<3*n)(hbB:bB<3*n)(hne:bA≠bB)(hrA:h bA=some (.row (u64s (A++TA)) eA))(hrB:h bB=some (.row (u64s (B++TB)) eB))(hcA:A.length≤cA)(hcB:B.length≤cB)(hB:B.length=A.length)(hA1:1≤A.length)(hbig:A.length<1000000000)(dA:WdD A)(dB:WdD B)
  (hu:u0<18446744073709551616∧u1<18446744073709551616∧v0<18446744073709551616∧v1<18446744073709551616)(ha:a<18446744073709551616^A.length)(hb:b<18446744073709551616^A.length)(hE:odd=false→v0*wv B=u0*wv A+a∧u1*wv A=v1*wv B+b)(hO:odd=true→u0*wv A=v0*wv B+a∧v1*wv B=u1*wv A+b):
  CF (cal (k+3)) 182 [.agg #[.int .u64 (u0:Int),.int .u64 (u1:Int),.int .u64 (v0:Int),.int .u64 (v1:Int),.bool odd],.slice (some ⟨bA,0,none⟩) A.length cA,.slice (some ⟨bB,0,none⟩) B.length cB] h n fun _ h' n' w=>∃A' B',(∀c∈w,c=bA∨c=bB)∧n≤n'∧(∀c,c<3*n→c≠bA→c≠bB→h' c=h c)∧h' bA=some (.row (u64s (A'++TA)) eA)∧h' bB=some (.row (u64s (B'++TB)) eB)∧WdD A'∧WdD B'∧A'.length=A.length∧B'.length=A.length∧wv A'=a∧wv B'=b:=by
 refine fT (fn:=Tryz.f182) R4 ?_
 obtain ⟨hu0,hu1,hv0,hv1⟩:=hu
 refine zN ?_
 refine wW (cs:=[.int .u64 (u0:Int),.int .u64 (u1:Int),.int .u64 (v0:Int),.int .u64 (v1:Int),.bool odd]) R5 ?_
 generalize hh:upd h (3*n+2) _=h1
 have hx1:∀c,c<3*n→h1 c=h c:=fun c hc=>by rw [←hh,zh zo]
 have q1:∃e,h1 (3*n+2)=some (.row [.int .u64 (u0:Int),.int .u64 (u1:Int),.int .u64 (v0:Int),.int .u64 (v1:Int),.bool odd] e):=⟨_,by rw [←hh,ze]⟩
 clear hh
 refine zN ?_
 repeat refine zR ?_
 refine zN ?_
 repeat refine zR ?_
 refine zN ?_
 repeat refine zR ?_
 refine zN ?_
 refine zV (α:=ASt) (fun z=>[(1,.slice (some ⟨bA,0,none⟩) A.length cA),(2,.slice (some ⟨bB,0,none⟩) B.length cB),(3,.pointer (some ⟨3*n+2,0,none⟩)),(6,.int .u64 (z.cP:Int)),(7,.int .u64 (z.cQ:Int)),(8,.int .u64 (z.cR:Int)),(9,.int .u64 (z.cT:Int)),(10,.int .u64 (z.b1:Int)),(11,.int .u64 (z.b2:Int)),(19,.slice (some ⟨bA,0,none⟩) A.length cA),(20,.int .i64 (A.length:Int)),(21,.int .i64 (z.D.length:Int))])
  (fun z h' n' w=>n'=n+1∧(∀c∈w,c=bA∨c=bB)∧(w=[]→z.D.length=0)∧(∀c,c<3*n→c≠bA→c≠bB→h' c=h c)∧(∃e,h' (3*n+2)=some (.row [.int .u64 (u0:Int),.int .u64 (u1:Int),.int .u64 (v0:Int),.int .u64 (v1:Int),.bool odd] e))∧h' bA=some (.row (u64s ((z.D++A.drop z.D.length)++TA)) eA)∧h' bB=some (.row (u64s ((z.F++B.drop z.F.length)++TB)) eB)∧z.ok A B u0 u1 v0 v1 odd) (fun z=>A.length-z.D.length)
  ⟨[],[],0,0,0,0,0,0,0,0,0,0⟩ ⟨rfl,rfl,rfl,rfl,rfl,rfl,rfl,rfl,rfl,rfl,rfl,rfl,trivial⟩ ⟨rfl,fun x hx=>absurd hx List.not_mem_nil,fun _=>rfl,fun c hc _ _=>hx1 c hc,q1,(hx1 _ hbA).trans hrA,(hx1 _ hbB).trans hrB,Nat.zero_le _,rfl,WdD.nil,WdD.nil,by show (0:Nat)<_;decide,by show (0:Nat)<_;decide,by show (0:Nat)<_;decide,by show (0:Nat)<_;decide,by show (0:Nat)≤_;decide,by show (0:Nat)≤_;decide,by simp [wv,dv],by simp [wv,dv],by simp [wv,dv],by simp [wv,dv],fun _=>by simp [wv,dv],fun _=>by simp [wv,dv]⟩ (by show A.length-0<LL;unfold LL;omega) ?_
 clear hx1 q1 hrA hrB
 rintro ⟨D,F,cP,cQ,cR,cT,b1,b2,p,q,r,t'⟩ t h2 _ w ⟨rfl,hw,hw0,hx2,⟨e2,q2⟩,qA,qB,hz⟩
 have hzz:ASt.ok A B u0 u1 v0 v1 odd ⟨D,F,cP,cQ,cR,cT,b1,b2,p,q,r,t'⟩:=hz
 have hz':=hz
 obtain ⟨k1,k2,k3,k4,k5,k6,k7,k8,k9,k10,_⟩:=hz'
 simp only at hw0 qA qB k1 k2 k3 k4 k5 k6 k7 k8 k9 k10
 refine zN ?_
 by_cases hDA:D.length=A.length
 ·repeat refine zR ?_
  refine zN ?_
  rw [za rfl]
  refine zN ?_
  obtain ⟨f1,f2⟩:=ASt.fin hzz hDA hB ha hb hE hO
  rw [hDA,List.drop_length,List.append_nil] at qA
  rw [k2,hDA,←hB,List.drop_length,List.append_nil] at qB
  refine ⟨rfl,[],rfl,⟨D,F,hw,Nat.le_succ n,hx2,qA,qB,k3,k4,hDA,zo,f1,f2⟩,fun h0=>?_⟩
  have:=hw0 h0
  omega
 obtain ⟨x,hx⟩:∃x,A[D.length]?=some x:=⟨A[D.length]'zo,List.getElem?_eq_getElem zo⟩
 obtain ⟨y,hy⟩:∃y,B[D.length]?=some y:=⟨B[D.length]'zo,List.getElem?_eq_getElem zo⟩
 have hxl:=dA.get hx
 have hyl:=dB.get hy
 have hSA:Sl h2 (n+1) 1 (.slice (some ⟨bA,0,none⟩) A.length cA) (u64s (D++A.drop D.length)):=nk zo qA (by rw [List.length_append,List.length_drop];omega) hcA
 have hSB:Sl h2 (n+1) 1 (.slice (some ⟨bB,0,none⟩) B.length cB) (u64s (F++B.drop F.length)):=nk zo qB (by rw [List.length_append,List.length_drop];omega) hcB
 have hyF:B[F.length]?=some y:=by rw [k2];exact hy
 repeat refine zR ?_
 refine zN ?_
 rw [zc rfl]
 refine zN ?_
 repeat refine zR ?_
 refine z6 (f:=fun d:Nat=>Value.int .u64 (d:Int)) (j:=D.length) R7 hSA R2 (ut hx) (fun _=>rfl) R4 fun _=>?_
 repeat refine zR ?_
 refine zN ?_
 repeat refine zR ?_
 refine z6 (f:=fun d:Nat=>Value.int .u64 (d:Int)) (j:=F.length) R7 hSB ⟨rfl,zo⟩ (ut hyF) (fun _=>rfl) R4 fun _=>?_
 repeat refine zR ?_
 refine zN ?_
 have hpp:=rU hxl hu0
 refine zM ?_
 refine zM ?_
 refine zC R6 q2 (v:=.int .u64 (u0:Int)) R2 ?_
 refine zM ?_
 refine yg _ R5 (uQ k h2 (n+1) hxl hu0 k5) ?_
 rintro _ rfl
 obtain ⟨sp,hsp⟩:∃z,z=(x*u0+cP)%18446744073709551616:=⟨_,rfl⟩
 obtain ⟨cp,hcp⟩:∃z,z=(x*u0+cP)/18446744073709551616:=⟨_,rfl⟩
 rw [←hsp,←hcp]
 have hlp:sp<18446744073709551616:=by rw [hsp];exact Nat.mod_lt _ zd
 have hdp:cp<18446744073709551616:=zo
 have hep:18446744073709551616*cp+sp=x*u0+cP:=by rw [hsp,hcp];exact Nat.div_add_mod _ _
 clear hsp hcp hpp
 repeat refine zR ?_
 refine zN ?_
 have hpq:=rU hyl hv0
 refine zM ?_
 refine zM ?_
 refine zC R6 q2 (v:=.int .u64 (v0:Int)) R2 ?_
 refine zM ?_
 refine yg _ R5 (uQ k h2 (n+1) hyl hv0 k6) ?_
 rintro _ rfl
 obtain ⟨sq,hsq⟩:∃z,z=(y*v0+cQ)%18446744073709551616:=⟨_,rfl⟩
 obtain ⟨cq,hcq⟩:∃z,z=(y*v0+cQ)/18446744073709551616:=⟨_,rfl⟩
 rw [←hsq,←hcq]
 have hlq:sq<18446744073709551616:=by rw [hsq];exact Nat.mod_lt _ zd
 have hdq:cq<18446744073709551616:=zo
 have heq:18446744073709551616*cq+sq=y*v0+cQ:=by rw [hsq,hcq];exact Nat.div_add_mod _ _
 clear hsq hcq hpq
 repeat refine zR ?_
 refine zN ?_
 have hpr:=rU hyl hv1
 refine zM ?_
 refine zM ?_
 refine zC R6 q2 (v:=.int .u64 (v1:Int)) R2 ?_
 refine zM ?_
 refine yg _ R5 (uQ k h2 (n+1) hyl hv1 k7) ?_
 rintro _ rfl
 obtain ⟨sr,hsr⟩:∃z,z=(y*v1+cR)%18446744073709551616:=⟨_,rfl⟩
 obtain ⟨cr,hcr⟩:∃z,z=(y*v1+cR)/18446744073709551616:=⟨_,rfl⟩
 rw [←hsr,←hcr]
 have hlr:sr<18446744073709551616:=by rw [hsr];exact Nat.mod_lt _ zd
 have hdr:cr<18446744073709551616:=zo
 have her:18446744073709551616*cr+sr=y*v1+cR:=by rw [hsr,hcr];exact Nat.div_add_mod _ _
 clear hsr hcr hpr
 repeat refine zR ?_
 refine zN ?_
 have hpt:=rU hxl hu1
 refine zM ?_
 refine zM ?_
 refine zC R6 q2 (v:=.int .u64 (u1:Int)) R2 ?_
 refine zM ?_
 refine yg _ R5 (uQ k h2 (n+1) hxl hu1 k8) ?_
 rintro _ rfl
 obtain ⟨st,hst⟩:∃z,z=(x*u1+cT)%18446744073709551616:=⟨_,rfl⟩
 obtain ⟨ct,hct⟩:∃z,z=(x*u1+cT)/18446744073709551616:=⟨_,rfl⟩
 rw [←hst,←hct]
 have hlt:st<18446744073709551616:=by rw [hst];exact Nat.mod_lt _ zd
 have hdt:ct<18446744073709551616:=zo
 have het:18446744073709551616*ct+st=x*u1+cT:=by rw [hst,hct];exact Nat.div_add_mod _ _
 clear hst hct hpt
 repeat refine zR ?_
 refine zN ?_
 refine zM ?_
 refine zC R6 q2 (v:=.bool odd) R2 ?_
 simp only [zZ,yc,zk,yd]
 refine yI (α:=Nat×Nat×Nat×Nat) (fun z=>[(1,.slice (some ⟨bA,0,none⟩) A.length cA),(2,.slice (some ⟨bB,0,none⟩) B.length cB),(3,.pointer (some ⟨3*n+2,0,none⟩)),(6,.int .u64 (cp:Int)),(7,.int .u64 (cq:Int)),(8,.int .u64 (cr:Int)),(9,.int .u64 (ct:Int)),(10,.int .u64 (b1:Int)),(11,.int .u64 (b2:Int)),(12,.int .u64 (z.1:Int)),(13,.int .u64 (z.2.1:Int)),(14,.int .u64 (z.2.2.1:Int)),(15,.int .u64 (z.2.2.2:Int)),(16,.int .i64 (D.length:Int)),(19,.slice (some ⟨bA,0,none⟩) A.length cA),(20,.int .i64 (A.length:Int)),(21,.int .i64 (D.length:Int))])
  (fun z h' n' w'=>h2=h'∧n+1=n'∧w=w'∧z.1<18446744073709551616∧z.2.1<18446744073709551616∧z.2.2.1<18446744073709551616∧z.2.2.2<18446744073709551616∧(odd=false→z.1=sp∧z.2.1=sq∧z.2.2.1=sr∧z.2.2.2=st)∧(odd=true→z.1=sq∧z.2.1=sp∧z.2.2.1=st∧z.2.2.2=sr)) ?_ ?_
 ·cases odd with
  |false=>
   rw [za rfl]
   refine zN ?_
   exact zS (sp,sq,sr,st) ⟨rfl,rfl,rfl,rfl,rfl,rfl,rfl,rfl,rfl,rfl,rfl,rfl,rfl,rfl,rfl,rfl,rfl,trivial⟩ ⟨rfl,rfl,rfl,hlp,hlq,hlr,hlt,fun _=>⟨rfl,rfl,rfl,rfl⟩,fun h=>by cases h⟩
  |true=>
   rw [zc rfl]
   refine zN ?_
   repeat refine zR ?_
   refine zN ?_
   exact zS (sq,sp,st,sr) ⟨rfl,rfl,rfl,rfl,rfl,rfl,rfl,rfl,rfl,rfl,rfl,rfl,rfl,rfl,rfl,rfl,rfl,trivial⟩ ⟨rfl,rfl,rfl,hlq,hlp,hlt,hlr,fun h=>(by cases h),fun _=>⟨rfl,rfl,rfl,rfl⟩⟩
 rintro ⟨z1,z2,z3,z4⟩ t3 _ _ _ ⟨rfl,rfl,rfl,hz1,hz2,hz3,hz4,gE,gO⟩
 simp only at hz1 hz2 hz3 hz4 gE gO
 refine zN ?_
 have hlA:(D++A.drop D.length).length=A.length:=by rw [List.length_append,List.length_drop];omega
 have hlB:(F++B.drop F.length).length=B.length:=by rw [List.length_append,List.length_drop];omega
 repeat refine zR ?_
 refine sd (x:=z2) (y:=z1) (c:=b1) R5 k9 ?_
 have hsd:=vM hz2 hz1 k9
 obtain ⟨d,hd⟩:∃d,d=(z2+18446744073709551616-z1-b1)%18446744073709551616:=⟨_,rfl⟩
 obtain ⟨e1,he1⟩:∃e1,e1=(if z1+b1≤z2 then 0 else 1):=⟨_,rfl⟩
 rw [←hd,←he1] at hsd ⊢
 have hdl:d<18446744073709551616:=by rw [hd];exact Nat.mod_lt _ zd
 have he1l:e1≤1:=by rw [he1];split<;>omega
 repeat refine zR ?_
 refine yD (j:=D.length) (off:=0) (v:=.int .u64 (d:Int)) R8 rfl ⟨zo,by rw [zP,List.length_append,hlA];omega⟩ qA hbA (fun _=>rfl) R3 (fun _=>rfl) rfl fun _=>?_
 rw [Nat.zero_add,yo,jH _ hx]
 generalize hh:upd h2 bA _=h3
 have qA3:h3 bA=some (.row (u64s (((D++[d])++A.drop (D++[d]).length)++TA)) eA):=by rw [←hh,ze]
 have qB3:h3 bB=some (.row (u64s ((F++B.drop F.length)++TB)) eB):=by rw [←hh,zh (Ne.symm hne)];exact qB
 have q3:=(show h3 (3*n+2)=h2 (3*n+2) from by rw [←hh,zh zo]).trans q2
 have hx3:∀c,c<3*n→c≠bA→c≠bB→h3 c=h c:=fun c hc h1 h2'=>by rw [←hh,zh h1];exact hx2 c hc h1 h2'
 clear hh q2 qA qB hx2 hSA hSB
 repeat refine zR ?_
 refine zN ?_
 repeat refine zR ?_
 refine sd (x:=z4) (y:=z3) (c:=b2) R5 k10 ?_
 have hsf:=vM hz4 hz3 k10
 obtain ⟨f,hf⟩:∃d,d=(z4+18446744073709551616-z3-b2)%18446744073709551616:=⟨_,rfl⟩
 obtain ⟨e2',he2⟩:∃e1,e1=(if z3+b2≤z4 then 0 else 1):=⟨_,rfl⟩
 rw [←hf,←he2] at hsf ⊢
 have hfl:f<18446744073709551616:=by rw [hf];exact Nat.mod_lt _ zd
 have he2l:e2'≤1:=by rw [he2];split<;>omega
 repeat refine zR ?_
 refine yD (j:=F.length) (off:=0) (v:=.int .u64 (f:Int)) R8 zo ⟨zo,by rw [zP,List.length_append,hlB];omega⟩ qB3 hbB (fun _=>rfl) R3 (fun _=>rfl) rfl fun _=>?_
 rw [Nat.zero_add,yo,jH _ hyF]
 repeat refine zR ?_
 refine zN ?_
 repeat refine zR ?_
 refine zN ?_
 have hst:=ASt.step hzz hx hy hep heq her het ⟨hdp,hdq,hdr,hdt,hdl,hfl,he1l,he2l⟩ (fun h=>by
  obtain ⟨i1,i2,i3,i4⟩:=gE h
  rw [←i1,←i2,←i3,←i4]
  exact ⟨hsd,hsf⟩) (fun h=>by
  obtain ⟨i1,i2,i3,i4⟩:=gO h
  rw [←i1,←i2,←i3,←i4]
  exact ⟨hsd,hsf⟩)
 refine goOn _ ?_ ⟨rfl,rfl,rfl,rfl,rfl,rfl,rfl,rfl,rfl,rfl,rfl,?_,trivial⟩ ⟨rfl,?_,?_,?_,⟨e2,(zh zo).trans q3⟩,(zh hne).trans qA3,ze _ _ _,hst⟩
 ·show A.length-(D++[d]).length<A.length-D.length
  rw [List.length_append,List.length_singleton];omega
 ·show Value.int .i64 _=Value.int .i64 _
  rw [List.length_append];rfl
 ·intro c hc
  rcases List.mem_cons.1 hc with rfl|hc
  ·exact .inr rfl
  rcases List.mem_cons.1 hc with rfl|hc
  ·exact .inl rfl
  exact hw c hc
 ·intro h;cases h
 intro c hc h1 h2'
 exact (zh h2').trans (hx3 c hc h1 h2')
end
section
variable {a:Nat}
section
variable {E:Env}{h:HF}{n:Nat}{sT e:TypeId}{size bytes:Nat}{z x:Value}
theorem aF {cap:Nat}{e':TypeId}(hu:E.und sT=some (.slice e))(hi:E.inf e=some (1,bytes,z))(hz:(zl z).length=1)(h1:1≤bytes)(hx:argS h 1 x 1 [v])(hb:(len+1)*bytes≤1099511627776)(hc:len+1≤cap)(hr:h b=some (.row c e'))(hl:len<c.length)(ho:ones [v]=true):
  yE E h n sT (.slice (some ⟨b,0,none⟩) len cap) x=some (.val (.slice (some ⟨b,0,none⟩) (len+1) cap) (upd h b (some (.row (c.set len v) e'))) n [b]):=by
 obtain ⟨hl',hcx⟩:=hx
 have c1:Nat.ble ((len+1)*bytes) 1099511627776=true:=Nat.ble_eq_true_of_le hb
 have c2:Nat.beq (zl z).length 1=true:=by rw [hz];exact Nat.beq_refl _
 have c3:Nat.ble 1 1=true:=rfl
 have c4:Nat.ble 1 bytes=true:=Nat.ble_eq_true_of_le h1
 have c5:Nat.ble (len+1) cap=true:=Nat.ble_eq_true_of_le hc
 have c6:vz h ((⟨b,0,none⟩:Addr).add (len*1)) [v]=some (upd h b (some (.row (c.set len v) e'))):=by
  rw [vi,Nat.zero_add,Nat.mul_one,ta hr (by rw [List.length_singleton];omega) ho,splice_one c len v hl]
 simp only [yE,hu,hi,hl',hcx,c1,c2,c3,c4,c5,Bool.and_self,vv,c6]
end
structure GRow (h:HF)(lo n b:Nat)(A T:List Nat):Prop where
 g:gro b=true
 lo:3*lo≤b
 hi:b<3*n
 r:h b=some (.row (u64s (A++T)) 170)
theorem GRow.sl {h:HF}{n:Nat}(g:GRow h lo n b A T):Sl h n 1 (.slice (some ⟨b,0,none⟩) A.length (A.length+T.length)) (u64s A):=nk g.hi g.r rfl zo
theorem GRow.ext {h:HF}{n:Nat}(g:GRow h lo n b A T)(e:Ext n h h')(hn:n≤n'):GRow h' lo n' b A T:=⟨g.g,g.lo,by have:=g.hi;omega,by rw [e b g.hi];exact g.r⟩
theorem GRow.cut {h:HF}{n:Nat}(g:GRow h lo n b A T):GRow h lo n b (zT A) (A.drop (zT A).length++T):=⟨g.g,g.lo,g.hi,by
 rw [←List.append_assoc]
 have:zT A++A.drop (zT A).length=A:=by
  conv=>lhs;rw [←u9 A]
  conv=>rhs;rw [←List.take_append_drop (zT A).length A]
  rw [u9]
 rw [this];exact g.r⟩
theorem GRow.cap:(zT A).length+(A.drop (zT A).length++T).length=A.length+T.length:=by
 have:=yU A
 rw [List.length_append,List.length_drop]
 omega
section
variable {X:CtxF}{ops r:List Oper}{t:TF}{h:HF}{n:Nat}{w:List Nat}{Q:SV→Prop}{o:Oper}{d:Tmp}
theorem zd5 {sT:TypeId}{s x:Operand}{bytes:Nat}{z:Value}{d0:Nat}(hw:zg ops t o=true)(hd:o.dst=some d)(hn:zm X.nt (some d)=true)(ho:o.op=.call {callee:=.builtin .append,args:=#[s,x],argTypes:=#[sT,xT]})(hxT:(match X.E.und xT with|some (.int _)=>false|none=>false|_=>true)=true)
  (hu:X.E.und sT=some (.slice 170))(hi:X.E.inf 170=some (1,bytes,z))(hz:(zl z).length=1)(h1:1≤bytes)(hs:evF t s=.slice (some ⟨b,0,none⟩) A.length (A.length+T.length))(hg:GRow h lo n b A T)(hx:argS h 1 (evF t x) 1 (u64s [d0]))(hb:(A.length+1)*bytes≤1099511627776)(hlo:X.n0≤lo∧lo≤n)
  (k:∀b' T' h' n',n≤n'→GRow h' lo n' b' (A++[d0]) T'→(∀c,c<3*n→c≠b→h' c=h c)→(b'=b∨3*n≤b')→EO X ops r ⟨upd t d (.slice (some ⟨b',0,none⟩) (A.length+1) (A.length+1+T'.length)),h',n',w⟩ Q):EO X ops (o::r) ⟨t,h,n,w⟩ Q:=by
 have hbl:=hg.lo
 cases T with
 |cons x T=>
  rw [List.length_cons] at hs
  refine xq (v:=.slice (some ⟨b,0,none⟩) (A.length+1) (A.length+(T.length+1))) ⟨hw,hd,hn,ho,hxT⟩ (by rw [hs];exact aF hu hi hz h1 hx hb zo hg.r (by rw [zP,List.length_append,List.length_cons];omega) rfl) ?_
  rw [yS fun y hy=>by rw [List.mem_singleton.1 hy];omega]
  have:=k b T (upd h b (some (.row ((u64s (A++x::T)).set A.length (.int .u64 (d0:Int))) 170))) n (Nat.le_refl _) ⟨hg.g,hg.lo,hg.hi,by
   rw [ze,yo,List.set_append_right _ _ (Nat.le_refl _),Nat.sub_self,List.set_cons_zero,List.append_assoc]
   rfl⟩ (fun c _ hc=>zh hc) (.inl rfl)
  rw [show A.length+(T.length+1)=A.length+1+T.length from zo]
  exact this
 |nil=>
  rw [List.length_nil,Nat.add_zero] at hs
  have hr:=hg.r
  rw [List.append_nil] at hr
  refine xq (v:=.slice (some ⟨3*n+1,0,none⟩) (A.length+1) (A.length+1)) ⟨hw,hd,hn,ho,hxT⟩ (by rw [hs];exact tr hu hi hz (Nat.le_refl _) h1 hx (Nat.le_refl _) hb hg.g hr (by rw [zP,Nat.mul_one]) (xK (uP A) rfl) rfl) ?_
  rw [yS fun y hy=>by rw [List.mem_singleton.1 hy];omega]
  have hbh:=hg.hi
  exact k (3*n+1) [] _ (n+1) (Nat.le_succ n) ⟨uy n,zo,zo,by rw [ze,List.append_nil,wU]⟩ (fun c hc hcb=>by rw [zh zo,zh hcb]) (.inr zo)
end
theorem zg3 {A f:Nat}(h1:2*b≤A)(h2:a≤B)(h:A*B<2^f)(hp:0<A*B):∃f',f=f'+1∧a*b<2^f':=by
 cases f with
 |zero=>rw [Nat.pow_zero] at h;omega
 |succ f=>
  refine ⟨f,rfl,?_⟩
  have h3:a*(2*b)≤B*A:=Nat.mul_le_mul h2 h1
  rw [Nat.mul_left_comm,Nat.mul_comm B A] at h3
  rw [Nat.pow_succ] at h
  omega
structure GSt where
 A:List Nat
 TA:List Nat
 bA:Nat
 B:List Nat
 aB:Option Addr
 cB:Nat
 f:Nat
structure GOk (h:HF)(lo n g:Nat)(z:GSt):Prop where
 rA:GRow h lo n z.bA z.A z.TA
 sB:Sl h n 1 (.slice z.aB z.B.length z.cB) (u64s z.B)
 rB:1≤z.B.length→∃bB TB,z.aB=some ⟨bB,0,none⟩∧z.cB=z.B.length+TB.length∧GRow h lo n bB z.B TB∧z.bA≠bB
 nA:NW z.A
 nB:NW z.B
 le:wv z.B≤wv z.A
 pos:0<wv z.A
 lA:z.A.length<1000000
 lB:z.B.length<80
 gcd:Nat.gcd (wv z.A) (wv z.B)=g
 fuel:wv z.A*wv z.B<2^z.f
theorem zcj (h:NW A)(h1:1≤A.length):0<wv A:=by
 rcases Nat.eq_zero_or_pos (wv A) with h0|h0
 ·have:A=[]:=h.inj NW.nil (by rw [h0];rfl)
  rw [this] at h1
  exact absurd h1 zd
 exact h0
theorem uR {B:List Nat}(hA:NW A)(hB:NW B)(h:wv B≤wv A):B.length≤A.length:=by
 rcases Nat.lt_or_ge A.length B.length with hl|hl
 ·have:=hA.len_lt hB hl;omega
 exact hl
theorem ze8 (h:gro b=true):b%3=1:=Nat.eq_of_beq_eq_true h
theorem kK (k:Nat){h:HF}(hG:GK.G h){n:Nat}(hn:20≤n)(hA:Sl h n 1 (.slice a1 l1 c1) (u64s A))(hC:Sl h n 1 (.slice a2 l2 c2) (u64s C))(nA:NW A)(nC:NW C)(hb:A.length<80∧C.length<80):
  CF (cal (k+7)) 139 [.slice a1 l1 c1,.slice a2 l2 c2] h n fun v h' n' w=>∃L,ResW n h v h' n' w L∧wv L=Nat.gcd (wv A) (wv C)∧(ym n v∨v=.slice a1 l1 c1∨v=.slice a2 l2 c2):=by
 refine zr (fn:=Tryz.f139) R4 ?_
 refine zN ?_
 repeat refine zR ?_
 refine zN ?_
 refine zM ?_
 refine zM ?_
 refine yg _ R5 (tR (k+3) hA hC nA nC zo) ?_
 rintro _ rfl
 refine pE R6 ?_
 simp only [zZ,yc,zk,yd]
 refine yI (α:=(Option Addr×Nat×Nat×List Nat)×(Option Addr×Nat×Nat×List Nat)) (fun z=>[(0,.slice z.1.1 z.1.2.1 z.1.2.2.1),(1,.slice z.2.1 z.2.2.1 z.2.2.2.1)]) (fun z h' n' w=>h=h'∧n=n'∧w=[]∧Sl h n 1 (.slice z.1.1 z.1.2.1 z.1.2.2.1) (u64s z.1.2.2.2)∧Sl h n 1 (.slice z.2.1 z.2.2.1 z.2.2.2.1) (u64s z.2.2.2.2)∧NW z.1.2.2.2∧NW z.2.2.2.2∧z.1.2.2.2.length<80∧z.2.2.2.2.length<80∧wv z.2.2.2.2≤wv z.1.2.2.2∧Nat.gcd (wv z.1.2.2.2) (wv z.2.2.2.2)=Nat.gcd (wv A) (wv C)∧(Value.slice z.1.1 z.1.2.1 z.1.2.2.1=.slice a1 l1 c1∨Value.slice z.1.1 z.1.2.1 z.1.2.2.1=.slice a2 l2 c2)) ?_ ?_
 ·by_cases hlt:wv A<wv C
  ·rw [zc (by show Value.bool _=_;rw [vh hlt];rfl)]
   refine zN ?_
   repeat refine zR ?_
   refine zN ?_
   exact zS ((a2,l2,c2,C),(a1,l1,c1,A)) ⟨rfl,rfl,trivial⟩ ⟨rfl,rfl,rfl,hC,hA,nC,nA,hb.2,hb.1,Nat.le_of_lt hlt,Nat.gcd_comm _ _,.inr rfl⟩
  rw [za (by
   show Value.bool _=_
   rcases Nat.lt_or_ge (wv C) (wv A) with h|h
   ·rw [vG h];rfl
   ·rw [show wv A=wv C from zo,ry];rfl)]
  refine zN ?_
  exact zS ((a1,l1,c1,A),(a2,l2,c2,C)) ⟨rfl,rfl,trivial⟩ ⟨rfl,rfl,rfl,hA,hC,nA,nC,hb.1,hb.2,by show wv C≤wv A;omega,rfl,.inl rfl⟩
 rintro ⟨⟨a,l,c,X⟩,⟨a',l',c',Y⟩⟩ t _ _ _ ⟨rfl,rfl,rfl,hX,hY,nX,nY,hXl,hYl,hYX,hg,hv⟩
 simp only at hX hY nX nY hXl hYl hYX hg hv
 generalize hgg:Nat.gcd (wv A) (wv C)=g at hg ⊢
 clear hgg hb hA hC nA nC
 have eX:=hX.lenW
 have eY:=hY.lenW
 subst eX eY
 refine zN ?_
 by_cases hY0:Y=[]
 ·subst hY0
  repeat refine zR ?_
  refine zN ?_
  rw [zc rfl]
  refine zN ?_
  repeat refine zR ?_
  refine zN ?_
  exact retH _ ⟨rfl,(zi rfl),rfl⟩ ⟨X,⟨rfl,Nat.le_refl _,Ext.refl _ _,hX,nX⟩,by rw [←hg,show wv []=0 from rfl,Nat.gcd_zero_right],.inr hv⟩
 have hY1:1≤Y.length:=by
  rcases Nat.eq_zero_or_pos Y.length with h0|h0
  ·exact absurd (List.length_eq_zero_iff.1 h0) hY0
  exact h0
 have hX1:1≤X.length:=Nat.le_trans hY1 (uR nX nY hYX)
 have hX0:X≠[]:=fun e=>by rw [e] at hX1;exact absurd hX1 zd
 repeat refine zR ?_
 refine zN ?_
 rw [za rfl]
 refine zN ?_
 refine zM ?_
 refine zu _ R5 (vY (k+5) hX zo) ?_
 rintro v5 h2 n2 _ ⟨rfl,hn2,hx2,_,hg5⟩
 obtain ⟨b5,rfl,g51,g52,g53,g54,_⟩:=(hg5 hX0).inv2 zo
 refine zM ?_
 refine zu _ R5 (vY (k+5) (hY.ext hx2 hn2) zo) ?_
 rintro v6 h3 n3 _ ⟨rfl,hn3,hx3,_,hg6⟩
 obtain ⟨b6,rfl,g61,g62,g63,g64,_⟩:=(hg6 hY0).inv2 zo
 have hx23:Ext n h h3:=hx2.trans hx3 hn2
 have r5:GRow h3 n n3 b5 X []:=⟨g51,g52,zo,by rw [List.append_nil,hx3 _ g53];exact g54⟩
 have r6:GRow h3 n n3 b6 Y []:=⟨g61,zo,g63,by rw [List.append_nil];exact g64⟩
 repeat refine zR ?_
 refine zN ?_
 refine zV (α:=GSt) (fun z=>[(5,.slice (some ⟨z.bA,0,none⟩) z.A.length (z.A.length+z.TA.length)),(6,.slice z.aB z.B.length z.cB)]) (fun z h' n' w=>n≤n'∧w=[]∧Ext n h h'∧GOk h' n n' g z) (fun z=>z.f)
  ⟨X,[],b5,Y,some ⟨b6,0,none⟩,Y.length,64*(X.length+Y.length)⟩ ⟨rfl,rfl,trivial⟩ ⟨zo,rfl,hx23,r5,r6.sl,fun _=>⟨b6,[],rfl,rfl,r6,by show b5≠b6;omega⟩,nX,nY,hYX,zcj nX hX1,by show X.length<_;omega,hYl,hg,?_⟩ (by show 64*(X.length+Y.length)<LL;unfold LL;omega) ?_
 ·show wv X*wv Y<2^(64*(X.length+Y.length))
  rw [Nat.pow_mul,show (2:Nat)^64=18446744073709551616 from rfl,Nat.pow_add]
  exact Nat.mul_lt_mul'' (wQ nX.1) (wQ nY.1)
 clear hg5 hg6 r5 r6 hx23 hx2 hx3 g54 g64 hg hv hYX nX nY hX hY
 rintro ⟨A,TA,bA,B,aB,cB,f⟩ t h1 n1 _ ⟨hn1,rfl,hx1,hok⟩
 obtain ⟨rA,sB,rB,nA,nB,hle,hpos,lA,lB,hg,hf⟩:=hok
 simp only at rA sB rB nA nB hle hpos lA lB hg hf hn1
 refine zN ?_
 by_cases hB2:2≤B.length
 case neg=>
  repeat refine zR ?_
  refine zN ?_
  rw [za rfl]
  refine zN ?_
  cases B with
  |nil=>
   repeat refine zR ?_
   refine zN ?_
   rw [zc rfl]
   refine zN ?_
   repeat refine zR ?_
   refine zN ?_
   exact retH _ ⟨rfl,(zi rfl),rfl⟩ ⟨A,⟨rfl,hn1,hx1,rA.sl,nA⟩,by rw [←hg,show wv []=0 from rfl,Nat.gcd_zero_right],.inl rA.lo⟩
  |cons y B=>
   have hB0:B=[]:=by
    rw [List.length_cons] at hB2
    exact List.length_eq_zero_iff.1 zo
   subst hB0
   obtain ⟨bB,TB,rfl,rfl,gB,hne⟩:=rB (by simp)
   have hy:y<18446744073709551616:=nB.1 y (by simp)
   have hy0:y≠0:=NW.last (l:=[]) nB
   rw [qw] at hg
   have hr6:=gB.r
   have hG1:GK.G h1:=rG hG hx1 hn
   rw [show [y].length=1 from rfl]
   repeat refine zR ?_
   refine zN ?_
   rw [za rfl]
   refine zN ?_
   refine zj [0,1,3,0,0,16,48,120,255,511,1023] rfl ?_
   repeat refine zE ?_
   refine yf R6 (z8 rfl hr6 (v:=.int .u64 (y:Int)) R2) R2 ?_
   repeat refine zE ?_
   refine yf R6 (z8 rfl hr6 (v:=.int .u64 (y:Int)) R2) R2 ?_
   refine bi _ R7 (gH (k+2) (l:=A) (d:=y) zo nA.1 ⟨zo,hy⟩ rA.sl) ?_
   rintro _ rfl
   refine bi _ R7 (gX (k+4) hG1 n1 hy (Nat.lt_trans (Nat.mod_lt _ zo) hy)) ?_
   rintro _ rfl
   refine uX _ R7 (tQ (k+5) h1 n1 (Nat.lt_of_le_of_lt (Nat.gcd_le_left _ zo) hy)) ?_
   rintro v9 h9 n9 _ ⟨L9,⟨rfl,hn9,hx9,hs9,hN9⟩,hv9,hl9,hf9⟩
   obtain ⟨a9,l9,c9,rfl,_⟩:=hs9.len
   refine ⟨tK,hn9,?_⟩
   repeat refine zE ?_
   refine zN ?_
   exact retH _ ⟨rfl,(zi rfl),rfl⟩ ⟨L9,⟨rfl,by show n≤n9;omega,hx1.trans hx9 zo,hs9,hN9⟩,by rw [hv9,zbl,hg],.inl (hf9.mono zo)⟩
 obtain ⟨bB,TB,rfl,rfl,gB,hne⟩:=rB zo
 clear rB sB
 have hBp:=zcj nB (show 1≤B.length by omega)
 have hAB:=uR nA nB hle
 repeat refine zR ?_
 refine zN ?_
 rw [zc rfl]
 refine zN ?_
 refine zM ?_
 refine zM ?_
 refine zu _ R5 (kf (k+3) rA.sl gB.sl nA nB zo hle zo hBp) ?_
 rintro _ h2 n2 _ ⟨rfl,hn2,hx2,x,y,u0,u1,u2,v0,v1,v2,r0,r1,odd,rfl,hL,d0,d1,d2,d3⟩
 refine yp R5 ?_
 refine zI [.int .u64 (u0:Int),.int .u64 (u1:Int),.int .u64 (v0:Int),.int .u64 (v1:Int),.bool odd] R7 rfl (ze _ _ _) rfl (by show 3*n≤3*n2+2;omega) ?_
 rw [xC]
 generalize hh:upd h2 (3*n2+2) _=h3
 have q3:∃e,h3 (3*n2+2)=some (.row [.int .u64 (u0:Int),.int .u64 (u1:Int),.int .u64 (v0:Int),.int .u64 (v1:Int),.bool odd] e):=⟨_,by rw [←hh,ze]⟩
 obtain ⟨e3,q3⟩:=q3
 have hx13:Ext n1 h1 h3:=fun b hb=>by rw [←hh,zh zo,hx2 b hb]
 clear hh
 have hx3:Ext n h h3:=hx1.trans hx13 hn1
 have rA3:=rA.ext hx13 (show n1≤n2+1 by omega)
 have gB3:=gB.ext hx13 (show n1≤n2+1 by omega)
 refine zN ?_
 refine zM ?_
 refine zC R6 q3 (v:=.int .u64 (v0:Int)) R2 ?_
 by_cases hv0:v0=0
 ·repeat refine zR ?_
  refine zN ?_
  rw [zc rfl]
  refine zN ?_
  refine zM ?_
  refine zM ?_
  refine zu _ R5 (pi k rA3.sl gB3.sl nA nB zo hBp) ?_
  rintro _ h4 n4 _ ⟨vq,vr,Lq,Lr,rfl,rfl,hn4,hx4,hsq,hnq,hsr,hnr,hq,hr,_,_⟩
  obtain ⟨aq,lq,cq,rfl,_⟩:=hsq.len
  obtain ⟨ar,lr,cr,rfl,_⟩:=hsr.len
  have hml:=Nat.mod_lt (wv A) hBp
  have hlr:Lr.length≤B.length:=uR nB hnr zo
  have elr:=hsr.lenW
  subst elr
  repeat refine zR ?_
  refine zN ?_
  refine zM ?_
  refine zM ?_
  refine zu _ R5 (vY (k+5) hsr zo) ?_
  rintro v5 h5 n5 _ ⟨rfl,hn5,hx5,hs5,hg5⟩
  obtain ⟨a5,l5,c5,rfl,_⟩:=hs5.len
  have el5:=hs5.lenW
  subst el5
  repeat refine zR ?_
  refine zN ?_
  have hx35:Ext (n2+1) h3 h5:=hx4.trans hx5 hn4
  obtain ⟨f',rfl,hf'⟩:=zg3 (a:=wv B) (b:=wv A%wv B) (by
   have h1:=Nat.div_add_mod (wv A) (wv B)
   have h2:wv B*1≤wv B*(wv A/wv B):=Nat.mul_le_mul_left _ ((Nat.one_le_div_iff hBp).2 hle)
   omega) (Nat.le_refl _) hf (Nat.mul_pos hpos hBp)
  refine goOn ⟨B,TB,bB,Lr,a5,c5,f'⟩ (Nat.lt_succ_self _) ⟨rfl,rfl,trivial⟩ ⟨by show n≤n5;omega,rfl,hx3.trans hx35 (show n≤n2+1 by omega),gB3.ext hx35 (show n2+1≤n5 by omega),hs5,fun hl=>?_,nB,hnr,by show wv Lr≤wv B;rw [hr];exact Nat.le_of_lt hml,hBp,by show B.length<_;omega,by show Lr.length<_;omega,?_,by show wv B*wv Lr<_;rw [hr];exact hf'⟩
  ·obtain ⟨b7,e7,g71,g72,g73,g74,_⟩:=(hg5 (fun e=>by rw [show (GSt.mk B TB bB Lr a5 c5 f').B=Lr from rfl,e] at hl;exact absurd hl (Nat.not_succ_le_zero 0))).inv2 (show Lr.length≠0 from fun e=>by rw [show (GSt.mk B TB bB Lr a5 c5 f').B=Lr from rfl,e] at hl;exact absurd hl (Nat.not_succ_le_zero 0))
   injection e7 with e1 e2 e3
   subst e1 e3
   have:=gB.hi
   exact ⟨b7,[],rfl,rfl,⟨g71,zo,g73,by rw [List.append_nil];exact g74⟩,by show bB≠b7;omega⟩
  show Nat.gcd (wv B) (wv Lr)=g
  rw [hr,←hg,Nat.gcd_comm,←Nat.gcd_rec,Nat.gcd_comm]
 obtain ⟨a,b,hE,hO,hba,hgab,hsumA,haB⟩:=hL.done hv0
 repeat refine zR ?_
 refine zN ?_
 rw [za rfl]
 simp only [zZ,yc,zk,yd]
 refine yI (α:=Nat×List Nat×List Nat×Nat) (fun z=>[(5,.slice (some ⟨bA,0,none⟩) A.length (A.length+TA.length)),(6,.slice (some ⟨z.1,0,none⟩) z.2.1.length (z.2.1.length+z.2.2.1.length)),(7,.pointer (some ⟨3*n2+2,0,none⟩))])
  (fun z h' n' w=>n'=z.2.2.2∧n2+1≤n'∧w=[]∧Ext n h h'∧GRow h' n n' bA A TA∧GRow h' n n' z.1 z.2.1 z.2.2.1∧bA≠z.1∧h' (3*n2+2)=some (.row [.int .u64 (u0:Int),.int .u64 (u1:Int),.int .u64 (v0:Int),.int .u64 (v1:Int),.bool odd] e3)∧z.2.1.length=A.length∧WdD z.2.1∧wv z.2.1=wv B) ?_ ?_
 ·refine zN ?_
  refine zV (α:=Nat×List Nat×List Nat) (fun z=>[(5,.slice (some ⟨bA,0,none⟩) A.length (A.length+TA.length)),(6,.slice (some ⟨z.1,0,none⟩) z.2.1.length (z.2.1.length+z.2.2.length)),(7,.pointer (some ⟨3*n2+2,0,none⟩))])
   (fun z h' n' w=>n2+1≤n'∧w=[]∧Ext n h h'∧GRow h' n n' bA A TA∧GRow h' n n' z.1 z.2.1 z.2.2∧bA≠z.1∧h' (3*n2+2)=some (.row [.int .u64 (u0:Int),.int .u64 (u1:Int),.int .u64 (v0:Int),.int .u64 (v1:Int),.bool odd] e3)∧z.2.1.length≤A.length∧WdD z.2.1∧wv z.2.1=wv B) (fun z=>A.length-z.2.1.length)
   (bB,B,TB) ⟨rfl,rfl,rfl,trivial⟩ ⟨Nat.le_refl _,rfl,hx3,rA3,gB3,hne,q3,hAB,nB.1,rfl⟩ (by show A.length-B.length<LL;unfold LL;omega) ?_
  clear rA3 gB3 q3 hx3
  rintro ⟨bZ,Z,T⟩ t h4 n4 _ ⟨hn4,rfl,hx4,rA4,gZ,hne4,q4,hZl,dZ,hZv⟩
  simp only at gZ hne4 hZl dZ hZv
  refine zN ?_
  by_cases hZA:Z.length<A.length
  ·repeat refine zR ?_
   refine zN ?_
   rw [zc rfl]
   refine zN ?_
   refine zM ?_
   refine vO (cs:=u64s [0]) R5 ?_
   generalize hh:upd h4 (3*n4+2) _=h5
   have hx45:Ext n4 h4 h5:=by rw [←hh];exact Ext.upd zo
   have q5:∃e,h5 (3*n4+2)=some (.row (u64s [0]) e):=⟨_,by rw [←hh,ze]⟩
   obtain ⟨e5,q5⟩:=q5
   clear hh
   refine zd5 (lo:=n) (d0:=0) rfl rfl rfl rfl rfl rfl rfl rfl zd rfl (gZ.ext hx45 (Nat.le_succ n4)) (wy q5 R2) zo ⟨Nat.le_refl _,zo⟩ ?_
   intro b' T' h6 n6 hn6 g6 hx6 hb6
   repeat refine zR ?_
   refine zN ?_
   have hgm:=ze8 gZ.g
   have hZhi:=gZ.hi
   have hZlo:=gZ.lo
   have hAhi:=rA4.hi
   refine goOn (b',Z++[0],T') (by show A.length-(Z++[0]).length<A.length-Z.length;rw [List.length_append,List.length_singleton];omega) ⟨rfl,by show Value.slice _ _ _=Value.slice _ _ _;rw [List.length_append];rfl,rfl,trivial⟩ ⟨by show n2+1≤n6;omega,rfl,fun b hb=>?_,⟨rA4.g,rA4.lo,by show bA<3*n6;omega,?_⟩,g6,by show bA≠b';rcases hb6 with e|e<;>omega,?_,by show (Z++[0]).length≤_;rw [List.length_append,List.length_singleton];omega,WdD.snoc dZ zd,by show wv (Z++[0])=_;rw [y7,Nat.mul_zero,Nat.add_zero,hZv]⟩
   ·exact (hx6 b zo zo).trans ((hx45 b zo).trans (hx4 b hb))
   ·exact (hx6 bA zo hne4).trans ((hx45 bA zo).trans rA4.r)
   exact (hx6 (3*n2+2) zo zo).trans ((hx45 (3*n2+2) zo).trans q4)
  repeat refine zR ?_
  refine zN ?_
  rw [za rfl]
  refine zN ?_
  exact zS (bZ,Z,T,n4) ⟨rfl,rfl,rfl,trivial⟩ ⟨rfl,hn4,rfl,hx4,rA4,gZ,hne4,q4,by show Z.length=_;omega,dZ,hZv⟩
 clear rA3 gB3 q3 hx3
 rintro ⟨bZ,Z,T,n4⟩ t h4 _ _ ⟨rfl,hn4,rfl,hx4,rA4,gZ,hne4,q4,hZl,dZ,hZv⟩
 simp only at gZ hne4 hZl dZ hZv
 refine zN ?_
 refine zK (v:=.agg #[.int .u64 (u0:Int),.int .u64 (u1:Int),.int .u64 (v0:Int),.int .u64 (v1:Int),.bool odd]) R5 (zL R2 q4 rfl zb rfl) ?_
 refine zM ?_
 refine zM ?_
 have hAlt:=wQ nA.1
 refine zu _ R5 (zcb (k+3) (a:=a) (b:=b) rA4.hi gZ.hi hne4 rA4.r gZ.r zo zo hZl zo zo nA.1 dZ ⟨zo,zo,zo,zo⟩ zo zo (by rw [hZv];exact hE) (by rw [hZv];exact hO)) ?_
 rintro _ h6 n6 w6 ⟨A',B',hw6,hn6,hx6,qA,qB,dA',dB',lA',lB',vA',vB'⟩
 have hAlo:=rA4.lo
 have hZlo:=gZ.lo
 have hAhi:=rA4.hi
 have hZhi:=gZ.hi
 try simp only [sX]
 rw [yS (w:=[]) fun y hy=>by
  show 3*n≤y
  rcases hw6 y hy with rfl|rfl
  ·exact hAlo
  ·exact hZlo]
 have rA6:GRow h6 n n6 bA A' TA:=⟨rA4.g,hAlo,zo,qA⟩
 have gB6:GRow h6 n n6 bZ B' T:=⟨gZ.g,hZlo,zo,qB⟩
 repeat refine zR ?_
 refine zN ?_
 refine zM ?_
 have tA:=xV (k+5) (l:=A') zo (fun ad e=>by injection e with e;rw [←e]) rA6.sl
 rw [lA'] at tA
 refine zu _ R5 tA ?_
 rintro _ h6 n6 _ ⟨rfl,rfl,rfl,rfl,hsA⟩
 refine zM ?_
 have tB:=xV (k+5) (l:=B') zo (fun ad e=>by injection e with e;rw [←e]) gB6.sl
 rw [lB',←hZl] at tB
 refine zu _ R5 tB ?_
 rintro _ h6 n6 _ ⟨rfl,rfl,rfl,rfl,hsB⟩
 repeat refine zR ?_
 refine zN ?_
 have hNA:=wN dA'
 have hNB:=wN dB'
 rw [vA'] at hNA
 rw [vB'] at hNB
 have hap:0<a:=by
  rcases Nat.eq_zero_or_pos a with h0|h0
  ·have hb0:b=0:=zo
   rw [h0,hb0,Nat.gcd_zero_right] at hgab
   have:=Nat.gcd_pos_of_pos_left (wv B) hpos
   omega
  exact h0
 obtain ⟨f',rfl,hf'⟩:=zg3 (a:=a) (b:=b) zo haB hf (Nat.mul_pos hpos hBp)
 have hcA:=GRow.cap (A:=A') (T:=TA)
 have hcB:=GRow.cap (A:=B') (T:=T)
 have hla:(zT A').length≤B.length:=uR nB hNA.1 (by rw [hNA.2];exact haB)
 have hlb:(zT B').length≤(zT A').length:=uR hNA.1 hNB.1 (by rw [hNA.2,hNB.2];exact hba)
 exact goOn ⟨zT A',A'.drop (zT A').length++TA,bA,zT B',some ⟨bZ,0,none⟩,Z.length+T.length,f'⟩ (Nat.lt_succ_self _) ⟨by show Value.slice _ _ _=Value.slice _ _ _;rw [hcA,lA'],rfl,trivial⟩ ⟨by show n≤n6;omega,rfl,fun c hc=>(hx6 c zo zo zo).trans (hx4 c hc),rA6.cut,hsB,fun _=>⟨bZ,B'.drop (zT B').length++T,rfl,by show Z.length+T.length=_;rw [hcB];omega,gB6.cut,hne4⟩,hNA.1,hNB.1,by show wv (zT B')≤wv (zT A');rw [hNA.2,hNB.2];exact hba,by show 0<wv (zT A');rw [hNA.2];exact hap,by show (zT A').length<_;omega,by show (zT B').length<_;omega,by show Nat.gcd (wv (zT A')) (wv (zT B'))=g;rw [hNA.2,hNB.2,hgab,hg],by show wv (zT A')*wv (zT B')<_;rw [hNA.2,hNB.2];exact hf'⟩
end
theorem eI (k:Nat)(h:HF)(n:Nat)(neg:Bool)(a:Option Addr)(l c:Nat):CF (cal (k+1)) 134 [.bool neg,.slice a l c] h n fun v h' n' w=>v=.agg #[.bool (neg&&decide (0<l)),.slice a l c]∧n'=n+1∧w=[]∧Ext n h h':=by
 refine zr (fn:=Tryz.f134) R4 ?_
 refine zN ?_
 refine yp R5 ?_
 refine zN ?_
 cases neg
 ·repeat refine zR ?_
  refine zI [.bool false,.slice a l c] R7 rfl (ze _ _ _) rfl (by show 3*n≤_;omega) ?_
  refine zN ?_
  exact wp R5 (ze _ _ _) rfl ⟨rfl,rfl,rfl,by rw [xC];exact Ext.upd zo⟩
 by_cases hl:0<l
 ·repeat refine zR ?_
  refine zI [.bool true,.slice a l c] R7 rfl (ze _ _ _) rfl (by show 3*n≤_;omega) ?_
  refine zN ?_
  exact wp R5 (ze _ _ _) rfl ⟨by rw [decide_eq_true hl];rfl,rfl,rfl,by rw [xC];exact Ext.upd zo⟩
 repeat refine zR ?_
 refine zI [.bool false,.slice a l c] R7 rfl (ze _ _ _) rfl (by show 3*n≤_;omega) ?_
 refine zN ?_
 exact wp R5 (ze _ _ _) rfl ⟨by rw [decide_eq_false hl];rfl,rfl,rfl,by rw [xC];exact Ext.upd zo⟩
theorem NW.zero_iff {L:List Nat}(h:NW L):wv L=0↔L=[]:=⟨fun e=>h.inj NW.nil (by rw [e];rfl),fun e=>by rw [e];rfl⟩
section
variable {l:Nat}{e:TypeId}{z:Value}
def Gw (n:Nat)(h:HF)(P:Value→HF→Nat→Prop):Value→HF→Nat→List Nat→Prop:=fun v h' n' w=>w=[]∧n≤n'∧Ext n h h'∧P v h' n'
def CX (C:CalF)(f:FuncId)(args:List Value)(h:HF)(n:Nat)(P:Value→HF→Nat→Prop):Prop:=CF C f args h n (Gw n h P)
theorem VF.cx {C:CalF}{h:HF}{n:Nat}{P:Value→Prop}(c:VF C f args h n P):CX C f args h n fun v _ _=>P v:=by
 refine y9 c ?_
 rintro v _ _ _ ⟨rfl,rfl,rfl,hp⟩
 exact ⟨rfl,Nat.le_refl _,Ext.refl _ _,hp⟩
theorem CX.mono {C:CalF}{h:HF}{n:Nat}{P P':Value→HF→Nat→Prop}(c:CX C f args h n P)(hp:∀v h' n',P v h' n'→P' v h' n'):CX C f args h n P':=by
 refine y9 c ?_
 rintro v _ _ _ ⟨hw,hn,hx,hq⟩
 exact ⟨hw,hn,hx,hp _ _ _ hq⟩
def Only (b:Nat)(h h':HF):Prop:=∀c,c≠b→h' c=h c
theorem Ext.st {n:Nat}{h h1 h2:HF}(x:Ext n h h1)(o:Only b h1 h2)(hb:3*n≤b):Ext n h h2:=fun c hc=>(o c zo).trans (x c hc)
section
variable {X:CtxF}{ops r:List Oper}{t:TF}{h:HF}{n:Nat}{w:List Nat}{Q:SV→Prop}{o:Oper}{d:Tmp}
theorem nT (cs:List Value)(hw:zg ops t o=true∧o.dst=some d∧zm X.nt (some d)=true∧cls o.op=2∧mkE X.E o.op (evF t)=some ⟨cs,e,false,none⟩)
  (k:∀h',h' (3*n+2)=some (.row cs e)→Ext n h h'→EO X ops r ⟨upd t d (.pointer (some ⟨3*n+2,0,none⟩)),h',n+1,w⟩ Q):EO X ops (o::r) ⟨t,h,n,w⟩ Q:=by obtain ⟨hw,hd,hn,hc,hm⟩:=hw;exact wW ⟨hw,hd,hn,hc,hm⟩ (k _ (ze _ _ _) (Ext.upd zo))
theorem vk (cs:List Value)(hw:zg ops t o=true∧o.dst=some d∧zm X.nt (some d)=true∧o.op=.alloc e∧X.E.inf e=some (sz,bt,z)∧zl z=cs)
  (k:∀h',h' (3*n+2)=some (.row cs e)→Ext n h h'→EO X ops r ⟨upd t d (.pointer (some ⟨3*n+2,0,none⟩)),h',n+1,w⟩ Q):EO X ops (o::r) ⟨t,h,n,w⟩ Q:=by
 obtain ⟨hw,hd,hn,ho,hi,hz⟩:=hw
 subst hz
 exact yp ⟨hw,hd,hn,ho,hi⟩ (k _ (ze _ _ _) (Ext.upd zo))
theorem ju {a x:Operand}(c':List Value)(hw:zg ops t o=true∧o.dst=none∧o.op=.store ty a x∧X.E.inf ty=some (sz,bt,z)∧evF t a=.pointer (some ⟨b,off,none⟩))(hb:h b=some (.row c e))(hx:zl (evF t x)=cs)(hs:cs.length=sz)(h1:ones cs=true)(hl:off+sz≤c.length)(hsp:zn c off cs=c')(hnew:3*X.n0≤b)
  (k:∀h',h' b=some (.row c' e)→Only b h h'→EO X ops r ⟨t,h',n,w⟩ Q):EO X ops (o::r) ⟨t,h,n,w⟩ Q:=by
 obtain ⟨hw,hd,ho,hi,ha⟩:=hw
 subst hsp
 exact yC ⟨hw,hd,ho,hi,ha,hx,hs,h1⟩ hb hl hnew (k _ (ze _ _ _) fun c hc=>zh hc)
theorem oL {P:Value→HF→Nat→Prop}(hw:zg ops t o=true∧o.dst=some d∧zm X.nt (some d)=true∧cls o.op=3∧effF X.E o.op (evF t) h n=some (.enter f args))(hcall:CX X.C f args h n P)
  (k:∀v h' n',P v h' n'→n≤n'→Ext n h h'→EO X ops r ⟨upd t d v,h',n',w⟩ Q):EO X ops (o::r) ⟨t,h,n,w⟩ Q:=by
 obtain ⟨hw,hd,hn,hc,he⟩:=hw
 refine zu _ ⟨hw,hd,hn,hc,he⟩ hcall ?_
 rintro v h' n' _ ⟨rfl,h2,h3,h4⟩
 exact k v h' n' h4 h2 h3
end
section
variable {X:CtxF}{ops r:List Oper}{ms:List Nat}{i m:Nat}{t:TF}{h:HF}{n:Nat}{w:List Nat}{al ld:List (Nat×Nat)}{ef:List (Nat×HF×List Nat)}{Q:SV→Prop}{o:Oper}{d:Tmp}
theorem zgc (cs:List Value)(hw:zg ops t o=true)(hd:o.dst=some d)(hn:zm X.nt (some d)=true)(hc:cls o.op=2)(hm:mkE X.E o.op (evF t)=some ⟨cs,e,false,none⟩)
  (k:∀h',h' (3*n+2)=some (.row cs e)→Ext n h h'→ED X ops r ms (i+1) ⟨⟨upd t d (.pointer (some ⟨3*n+2,0,none⟩)),h',n+1,w⟩,(i,3*n+2)::al,ld,ef⟩ Q):ED X ops (o::r) (m::ms) i ⟨⟨t,h,n,w⟩,al,ld,ef⟩ Q:=
 zhf hw hd hn hc hm (k _ (ze _ _ _) (Ext.upd zo))
theorem zgb {a x:Operand}(c':List Value)(hw:zg ops t o=true)(hd:o.dst=none)(ho:o.op=.store ty a x)(hi:X.E.inf ty=some (sz,bt,z))(ha:evF t a=.pointer (some ⟨b,off,none⟩))(hb:h b=some (.row c e))(hx:zl (evF t x)=cs)(hs:cs.length=sz)(h1:ones cs=true)(hl:off+sz≤c.length)(hsp:zn c off cs=c')(hnew:3*X.n0≤b)(g1:xR m ef=true)(g2:wi m al=true)(g3:yk m [b] ld=true)
  (k:∀h',h' b=some (.row c' e)→Only b h h'→ED X ops r ms (i+1) ⟨⟨t,h',n,w⟩,al,ld,(i,h,[b])::ef⟩ Q):ED X ops (o::r) (m::ms) i ⟨⟨t,h,n,w⟩,al,ld,ef⟩ Q:=by
 subst hsp
 exact xu ⟨hw,hd,ho,hi,ha,hx,hs⟩ h1 hb hl hnew ⟨g1,g2,g3⟩ (k _ (ze _ _ _) fun c hc=>zh hc)
theorem zdt {P:Value→HF→Nat→Prop}(hw:zg ops t o=true)(hd:o.dst=some d)(hn:zm X.nt (some d)=true)(hc:cls o.op=3)(he:effF X.E o.op (evF t) h n=some (.enter f args))(hcall:CX X.C f args h n P)(h1:xR m ef=true)(h2:wi m al=true)
  (k:∀v h' n',P v h' n'→n≤n'→Ext n h h'→ED X ops r ms (i+1) ⟨⟨upd t d v,h',n',w⟩,al,ld,(i,h,[])::ef⟩ Q):ED X ops (o::r) (m::ms) i ⟨⟨t,h,n,w⟩,al,ld,ef⟩ Q:=by
 refine uX _ ⟨hw,hd,hn,hc,he,h1,h2⟩ hcall ?_
 rintro v h' n' _ ⟨rfl,h2,h3,h4⟩
 exact ⟨tK,h2,k v h' n' h4 h2 h3⟩
end
theorem rP {s:SV}:resF env s []=some []:=rfl
theorem y6 {s:SV}{a:Tmp}{r:List ResultVar}(h:s.t a=v)(hr:resF env s r=some vs):resF env s (.tmp a::r)=some (v::vs):=by
 simp only [resF,hr,h]
theorem wj {s:SV}{a:Tmp}{ad:Addr}{r:List ResultVar}(ha:s.t a=.pointer (some ad))(hl:yn env ty s.h ad=some v)(hr:resF env s r=some vs):resF env s (.cell a ty::r)=some (v::vs):=by
 simp only [resF,ha,hl,hr]
theorem retX {P:Value→HF→Nat→Prop}{e:Ex}{t:TF}{h:HF}{n:Nat}(vs:List Value)(he:tN e=true∧resF env ⟨t,h,n,[]⟩ fn.results.toList=some vs∧uK vs=false)(hn:n0≤n)(hx:Ext n0 h0 h)(hp:P (re vs) h n):RetH fn (Gw n0 h0 P) e ⟨t,h,n,[]⟩:=by obtain ⟨he,hr,hf⟩:=he;exact retH vs ⟨he,hr,hf⟩ ⟨rfl,hn,hx,hp⟩
def nu:Value→Bool
 | .int .u64 _=>false
 | .int .u32 _=>false
 |_=>true
theorem Sl.onlyG {h:HF}{n:Nat}(s:Sl h n 1 v cl)(hcl:∀x∈cl,nu x=false)(hp:h b=some (.row cs e))(hu:cs.all nu=true)(ho:Only b h h'):Sl h' n 1 v cl:=by
 cases s with
 |nil ha=>exact .nil ha
 | @at_ b2 off len cap x cs2 c2 hb hx hc hcap hl he=>
  by_cases h0:len=0
  ·subst h0
   have:cl=[]:=by rw [←he];simp
   subst this
   exact .nil (.inr ⟨_,_,_,rfl,hb⟩)
  have hne:b2≠b:=by
   intro e2
   subst e2
   rw [hp] at hx
   cases hx
   injection hc with hc
   subst hc
   have hL:cl.length=len:=by rw [←he,List.length_take,List.length_drop];omega
   obtain ⟨d,L',rfl⟩:∃d L',cl=d::L':=by
    cases cl with
    |nil=>exact absurd hL.symm h0
    |cons d L'=>exact ⟨d,L',rfl⟩
   have hm:d∈cs:=by
    have:d∈(cs.drop off).take (len*1):=by rw [he];exact List.mem_cons_self
    exact List.mem_of_mem_drop (List.mem_of_mem_take this)
   have:=List.all_eq_true.1 hu _ hm
   rw [hcl d List.mem_cons_self] at this
   cases this
  exact .at_ hb (by rw [ho _ hne];exact hx) hc hcap hl he
theorem Sl.only {h:HF}{n:Nat}(s:Sl h n 1 v (u64s L))(hp:h b=some (.row cs e))(hu:cs.all nu=true)(ho:Only b h h'):Sl h' n 1 v (u64s L):=
 s.onlyG (fun x hx=>by obtain ⟨d,_,rfl⟩:=List.mem_map.1 hx;rfl) hp hu ho
theorem Sl.only32 {h:HF}{n:Nat}(s:Sl h n 1 v (u32s L))(hp:h b=some (.row cs e))(hu:cs.all nu=true)(ho:Only b h h'):Sl h' n 1 v (u32s L):=
 s.onlyG (fun x hx=>by obtain ⟨d,_,rfl⟩:=List.mem_map.1 hx;rfl) hp hu ho
def WW (h:HF)(n:Nat)(a:Option Addr)(l c m:Nat):Prop:=∃L,Sl h n 1 (.slice a l c) (u64s L)∧NW L∧wv L=m
theorem WW.ext {h:HF}{n:Nat}{a:Option Addr}{c m:Nat}(i:WW h n a l c m)(e:Ext n h h')(hn:n≤n'):WW h' n' a l c m:=by
 obtain ⟨L,h1,h2,h3⟩:=i
 exact ⟨L,h1.ext e hn,h2,h3⟩
theorem WW.only {h:HF}{n:Nat}{a:Option Addr}{c m:Nat}(i:WW h n a l c m)(hp:h bb=some (.row cs e))(hu:cs.all nu=true)(ho:Only bb h h'):WW h' n a l c m:=by
 obtain ⟨L,h1,h2,h3⟩:=i
 exact ⟨L,h1.only hp hu ho,h2,h3⟩
theorem WW.zero {h:HF}{n:Nat}{a:Option Addr}{c m:Nat}(i:WW h n a l c m):l=0↔m=0:=by
 obtain ⟨L,h1,h2,h3⟩:=i
 have e:=h1.lenW
 rw [←h3,h2.zero_iff,←List.length_eq_zero_iff,e]
theorem WW.as {h:HF}{n:Nat}{a:Option Addr}{c m:Nat}(i:WW h n a l c m)(e:m=m'):WW h n a l c m':=e▸i
theorem WW.nil (h:HF)(n:Nat):WW h n none 0 0 0:=⟨[],.nil (.inl rfl),NW.nil,rfl⟩
def IW (h:HF)(n:Nat)(b:Bool)(a:Option Addr)(l c:Nat)(x:Int):Prop:=b=decide (x<0)∧WW h n a l c x.natAbs
theorem IW.ext {h:HF}{n:Nat}{b:Bool}{a:Option Addr}{c:Nat}{x:Int}(i:IW h n b a l c x)(e:Ext n h h')(hn:n≤n'):IW h' n' b a l c x:=⟨i.1,i.2.ext e hn⟩
theorem IW.only {h:HF}{n:Nat}{b:Bool}{a:Option Addr}{c:Nat}{x:Int}(i:IW h n b a l c x)(hp:h bb=some (.row cs e))(hu:cs.all nu=true)(ho:Only bb h h'):IW h' n b a l c x:=⟨i.1,i.2.only hp hu ho⟩
theorem IW.as {h:HF}{n:Nat}{b:Bool}{a:Option Addr}{c:Nat}{x y:Int}(i:IW h n b a l c x)(e:x=y):IW h n b a l c y:=e▸i
theorem IW.lt {h:HF}{n:Nat}{a:Option Addr}{c:Nat}{x:Int}(i:IW h n true a l c x):x<0:=of_decide_eq_true i.1.symm
theorem IW.ge {h:HF}{n:Nat}{a:Option Addr}{c:Nat}{x:Int}(i:IW h n false a l c x):0≤x:=Int.not_lt.1 (of_decide_eq_false i.1.symm)
def IV (x:Int)(v:Value)(h:HF)(n:Nat):Prop:=∃b a l c,v=.agg #[.bool b,.slice a l c]∧IW h n b a l c x
def WV (m:Nat)(v:Value)(h:HF)(n:Nat):Prop:=∃a l c,v=.slice a l c∧WW h n a l c m
def BV (p:Prop)(v:Value)(_:HF)(_:Nat):Prop:=∃b:Bool,v=.bool b∧(b=true↔p)
def SV3 (x:Int)(v:Value)(_:HF)(_:Nat):Prop:=∃s:Int,v=.int .i64 s∧(s= -1∧x<0∨s=0∧x=0∨s=1∧0<x)
theorem IW.zero (h:HF)(n:Nat):IW h n false none 0 0 0:=⟨rfl,WW.nil h n⟩
def GG (h:HF)(n:Nat):Prop:=GK.G h∧20≤n
theorem GG.ext {h:HF}{n:Nat}(g:GG h n)(e:Ext n h h')(hn:n≤n'):GG h' n':=⟨rG g.1 e g.2,Nat.le_trans g.2 hn⟩
theorem GG.only {h:HF}{n:Nat}(g:GG h n)(hp:h bb=some (.row cs e))(_:cs.all nu=true)(ho:Only bb h h'):GG h' n:=by
 obtain ⟨⟨g1,g2,g3⟩,g4⟩:=g
 refine ⟨⟨(ho _ ?_).trans g1,(ho _ ?_).trans g2,(ho _ ?_).trans g3⟩,g4⟩<;>(intro e2;subst e2)
 ·rw [hp] at g1;cases g1
 ·rw [hp] at g2;cases g2
 rw [hp] at g3;cases g3
def BW:Nat:=18446744073709551616^39
theorem xa {m e:Nat}(h:m<2^e)(he:e≤2496):m<BW:=by
 have h1:e≤64*39:=he
 generalize hk:39=k at h1
 have h2:m<(2^64)^k:=by
  rw [←Nat.pow_mul]
  exact Nat.lt_of_lt_of_le h (Nat.pow_le_pow_right zd h1)
 subst hk
 exact h2
theorem NW.len39 (h:NW L)(hb:wv L<BW):L.length≤39:=h.len_le hb
def sgZ (b:Bool)(m:Nat):Int:=if b then -(m:Int) else m
theorem eS (b:Bool)(m:Nat):(sgZ b m).natAbs=m:=by unfold sgZ;split<;>omega
theorem eP (b:Bool)(m:Nat):decide (sgZ b m<0)=(b&&decide (0<m)):=by
 unfold sgZ
 cases b
 ·rw [Bool.false_and,decide_eq_false_iff_not];simp
 rw [Bool.true_and]
 by_cases h:0<m
 ·rw [decide_eq_true h,decide_eq_true];simp;omega
 rw [decide_eq_false h,decide_eq_false];simp;omega
theorem yH (k:Nat){h:HF}{n:Nat}{a:Option Addr}{c m:Nat}(i:WW h n a l c m)(neg:Bool):CX (cal (k+1)) 134 [.bool neg,.slice a l c] h n (IV (sgZ neg m)):=by
 refine y9 (eI k h n neg a l c) ?_
 rintro _ h' n' _ ⟨rfl,rfl,rfl,hx⟩
 refine ⟨rfl,Nat.le_succ _,hx,_,_,_,_,rfl,?_,?_⟩
 ·rw [eP]
  have:=i.zero
  congr 1
  by_cases h0:0<l
  ·rw [decide_eq_true h0,decide_eq_true zo]
  rw [decide_eq_false h0,decide_eq_false zo]
 rw [eS]
 exact i.ext hx zs
theorem ResW.ww {n:Nat}{h:HF}{w:List Nat}(r:ResW n h v h' n' w L){m:Nat}(e:wv L=m):w=[]∧n≤n'∧Ext n h h'∧WV m v h' n':=by
 obtain ⟨h1,h2,h3,h4,h5⟩:=r
 obtain ⟨a,l,c,rfl,_⟩:=h4.len
 exact ⟨h1,h2,h3,_,_,_,rfl,L,h4,h5,e⟩
section
variable (k:Nat){h:HF}{n:Nat}{a1 a2:Option Addr}{l1 c1 l2 c2 x y:Nat}
theorem zht (i:WW h n a1 l1 c1 x)(j:WW h n a2 l2 c2 y)(hb:x<BW∧y<BW):CX (cal (k+2)) 135 [.slice a1 l1 c1,.slice a2 l2 c2] h n (WV (x+y)):=by
 obtain ⟨A,hA,nA,rfl⟩:=i
 obtain ⟨C,hC,nC,rfl⟩:=j
 have:=nA.len39 hb.1
 have:=nC.len39 hb.2
 refine y9 (jr k hA hC nA nC zo) ?_
 rintro v h' n' w ⟨L,r,e,_⟩
 exact r.ww e
theorem gj (i:WW h n a1 l1 c1 x)(j:WW h n a2 l2 c2 y)(hb:x<BW∧y<BW)(hle:y≤x):CX (cal (k+2)) 137 [.slice a1 l1 c1,.slice a2 l2 c2] h n (WV (x-y)):=by
 obtain ⟨A,hA,nA,rfl⟩:=i
 obtain ⟨C,hC,nC,rfl⟩:=j
 have:=nA.len39 hb.1
 refine y9 (lW k hA hC nA nC zo hle) ?_
 rintro v h' n' w ⟨L,r,e,_⟩
 exact r.ww e
theorem za7 (i:WW h n a1 l1 c1 x)(j:WW h n a2 l2 c2 y)(hb:x<BW∧y<BW):CX (cal (k+3)) 138 [.slice a1 l1 c1,.slice a2 l2 c2] h n (WV (x*y)):=by
 obtain ⟨A,hA,nA,rfl⟩:=i
 obtain ⟨C,hC,nC,rfl⟩:=j
 have:=nA.len39 hb.1
 have:=nC.len39 hb.2
 refine y9 (kw k hA hC nA nC zo zo) ?_
 rintro v h' n' w ⟨L,r,e,_⟩
 exact r.ww e
theorem zin (i:WW h n a1 l1 c1 x)(j:WW h n a2 l2 c2 y)(hb:x<BW∧y<BW)(h0:0<y):CX (cal (k+6)) 181 [.slice a1 l1 c1,.slice a2 l2 c2] h n fun v h' n'=>∃a l c a' l' c',v=.tuple #[.slice a l c,.slice a' l' c']∧WW h' n' a l c (x/y)∧WW h' n' a' l' c' (x%y):=by
 obtain ⟨A,hA,nA,rfl⟩:=i
 obtain ⟨C,hC,nC,rfl⟩:=j
 have:=nA.len39 hb.1
 have:=nC.len39 hb.2
 refine y9 (pi k hA hC nA nC zo h0) ?_
 rintro v h' n' w ⟨vq,vr,Lq,Lr,rfl,h1,h2,h3,h4,h5,h6,h7,h8,h9,_⟩
 obtain ⟨a,l,c,rfl,_⟩:=h4.len
 obtain ⟨a',l',c',rfl,_⟩:=h6.len
 exact ⟨h1,h2,h3,_,_,_,_,_,_,rfl,⟨Lq,h4,h5,h8⟩,⟨Lr,h6,h7,h9⟩⟩
theorem zik (g:GG h n)(i:WW h n a1 l1 c1 x)(j:WW h n a2 l2 c2 y)(hb:x<BW∧y<BW):CX (cal (k+7)) 139 [.slice a1 l1 c1,.slice a2 l2 c2] h n (WV (Nat.gcd x y)):=by
 obtain ⟨A,hA,nA,rfl⟩:=i
 obtain ⟨C,hC,nC,rfl⟩:=j
 have:=nA.len39 hb.1
 have:=nC.len39 hb.2
 refine y9 (kK k g.1 g.2 hA hC nA nC zo) ?_
 rintro v h' n' w ⟨L,r,e,_⟩
 exact r.ww e
theorem fE (i:WW h n a1 l1 c1 x)(j:WW h n a2 l2 c2 y)(hb:x<BW∧y<BW):CX (cal (k+3)) 136 [.slice a1 l1 c1,.slice a2 l2 c2] h n (SV3 ((x:Int)-y)):=by
 obtain ⟨A,hA,nA,rfl⟩:=i
 obtain ⟨C,hC,nC,rfl⟩:=j
 have:=nA.len39 hb.1
 refine (tR k hA hC nA nC zo).cx.mono ?_
 rintro _ _ _ rfl
 refine ⟨_,rfl,?_⟩
 rcases Nat.lt_trichotomy (wv A) (wv C) with h|h|h
 ·exact .inl ⟨vh h,zo⟩
 ·exact .inr (.inl ⟨by rw [h];exact ry _,zo⟩)
 exact .inr (.inr ⟨vG h,zo⟩)
theorem zg8 (h:HF)(n:Nat){w:Nat}(hw:w<18446744073709551616):CX (cal (k+1)) 142 [.int .u64 (w:Int)] h n (WV w):=by
 refine y9 (tQ k h n hw) ?_
 rintro v h' n' w ⟨L,r,e,_⟩
 exact r.ww e
end
end
section
variable {bt lo n' off sz u:Nat}{h' h0:HF}{v x1 x10 x2 x3 x4 x5 x6 x7 x8 x9 z:Value}{args c cl cs vs:List Value}{E:Env}{ty ty':TypeId}{y:Operand}{f:FuncId}{fn:Func}{α:Type}
theorem bvs {b:Bool}{p:Prop}(h:b=true↔p):b=false∧¬p∨b=true∧p:=by
 cases b
 ·exact .inl ⟨rfl,fun hp=>by cases h.2 hp⟩
 exact .inr ⟨rfl,h.1 rfl⟩
theorem zhh {p:Prop}(h:p:=by first|exact ⟨hx,hy⟩|exact ⟨hy,hx⟩):p:=h
theorem zno {p:Prop}(h:¬p):∃b:Bool,Value.bool false=.bool b∧(b=true↔p):=⟨_,rfl,fun hq=>(by cases hq),fun hq=>absurd hq h⟩
theorem zye {p:Prop}(h:p):∃b:Bool,Value.bool true=.bool b∧(b=true↔p):=⟨_,rfl,fun _=>h,fun _=>rfl⟩
def Sto (b:Nat)(h h':HF):Prop:=Only b h h'∧∃cs e,h b=some (.row cs e)∧cs.all nu=true
def ExtB (n:Nat)(B:List Nat)(h h':HF):Prop:=∀b,b<3*n→b∉B→h' b=h b
theorem ExtB.refl (n:Nat)(B:List Nat)(h:HF):ExtB n B h h:=fun _ _ _=>rfl
theorem ExtB.ext {n:Nat}{B:List Nat}{a b c:HF}(x:ExtB n B a b)(y:Ext n' b c)(hn:n≤n'):ExtB n B a c:=fun k hk hb=>(y k zo).trans (x k hk hb)
theorem ExtB.st {n m:Nat}{B:List Nat}{a b c:HF}(x:ExtB n B a b)(o:Only m b c)(hm:3*n≤m∨m∈B):ExtB n B a c:=fun k hk hb=>by
 refine (o k fun e=>?_).trans (x k hk hb)
 subst e
 rcases hm with hm|hm
 ·omega
 exact hb hm
theorem ExtB.trans {n m:Nat}{B C:List Nat}{a b c:HF}(x:ExtB n B a b)(y:ExtB m C b c)(hm:n≤m)(hC:∀k∈C,k∈B∨3*n≤k):ExtB n B a c:=fun k hk hb=>(y k zo fun hc=>by rcases hC k hc with h|h;exact hb h;omega).trans (x k hk hb)
theorem ExtB.to {n m:Nat}{B:List Nat}{a b:HF}(x:ExtB n B a b)(hm:m≤n)(hB:∀k∈B,3*m≤k):Ext m a b:=fun k hk=>x k zo fun hb=>by have:=hB k hb;omega
structure Exa (n:Nat)(h h':HF):Prop where
 e:Ext n h h'
theorem Exa.zz {n b:Nat}{h:HF}{y:Option BF}(x:Exa n h h')(hb:b<3*n)(e:h b=y):h' b=y:=(x.e b hb).trans e
theorem Ext.zz {n b:Nat}{h:HF}{y:Option BF}(x:Ext n h h')(hb:b<3*n)(e:h b=y):h' b=y:=(x b hb).trans e
theorem Only.zz {b c:Nat}{h:HF}{y:Option BF}(x:Only b h h')(hb:c≠b)(e:h c=y):h' c=y:=(x c hb).trans e
theorem Sto.zz {b c:Nat}{h:HF}{y:Option BF}(x:Sto b h h')(hb:c≠b)(e:h c=y):h' c=y:=(x.1 c hb).trans e
theorem ExtB.zz {n b:Nat}{B:List Nat}{h:HF}{y:Option BF}(x:ExtB n B h h')(hb:b<3*n)(hB:b∉B)(e:h b=y):h' b=y:=(x b hb hB).trans e
def Tr (n:Nat)(h:HF)(n':Nat)(h':HF):Prop:=n≤n'∧∀c,c<3*n→h' c=h c∨∃cs e,h c=some (.row cs e)∧cs.all nu=true
def Tx (n:Nat)(h:HF)(n':Nat)(h':HF):Prop:=n≤n'∧Ext n h h'
def Ty (n:Nat)(B:List Nat)(h:HF)(n':Nat)(h':HF):Prop:=n≤n'∧ExtB n B h h'
section
variable {n n1 n2 b:Nat}{B C:List Nat}{h h1 h2:HF}
theorem Tr.refl (n:Nat)(h:HF):Tr n h n h:=⟨Nat.le_refl _,fun _ _=>.inl rfl⟩
theorem Tr.e (x:Ext n1 h1 h2)(hn:n1≤n2)(t:Tr n h n1 h1):Tr n h n2 h2:=⟨Nat.le_trans t.1 hn,fun c hc=>by rw [x c (by have:=t.1;omega)];exact t.2 c hc⟩
theorem Tr.s (x:Sto b h1 h2)(t:Tr n h n1 h1):Tr n h n1 h2:=by
 refine ⟨t.1,fun c hc=>?_⟩
 by_cases e:c=b
 ·subst e
  obtain ⟨cs,e,hp,hu⟩:=x.2
  rcases t.2 c hc with h3|h3
  ·rw [h3] at hp;exact .inr ⟨cs,e,hp,hu⟩
  exact .inr h3
 rw [x.1 c e];exact t.2 c hc
theorem Tx.refl (n:Nat)(h:HF):Tx n h n h:=⟨Nat.le_refl _,Ext.refl _ _⟩
theorem Tx.e (x:Ext n1 h1 h2)(hn:n1≤n2)(t:Tx n h n1 h1):Tx n h n2 h2:=⟨Nat.le_trans t.1 hn,t.2.trans x t.1⟩
theorem Tx.a (x:Exa lo h1 h2)(hl:n≤lo)(hn:n≤n2)(t:Tx n h n1 h1):Tx n h n2 h2:=⟨hn,t.2.trans x.e hl⟩
theorem Tx.o (x:Only b h1 h2)(hb:3*n≤b)(t:Tx n h n1 h1):Tx n h n1 h2:=⟨t.1,t.2.st x hb⟩
theorem Tx.s (x:Sto b h1 h2)(hb:3*n≤b)(t:Tx n h n1 h1):Tx n h n1 h2:=⟨t.1,t.2.st x.1 hb⟩
theorem Tx.l (x:ExtB n1 B h1 h2)(hn:n1≤n2)(hB:∀k∈B,3*n≤k)(t:Tx n h n1 h1):Tx n h n2 h2:=⟨Nat.le_trans t.1 hn,t.2.trans (x.to t.1 hB) (Nat.le_refl _)⟩
theorem Ty.refl (n:Nat)(B:List Nat)(h:HF):Ty n B h n h:=⟨Nat.le_refl _,ExtB.refl _ _ _⟩
theorem Ty.e (x:Ext n1 h1 h2)(hn:n1≤n2)(t:Ty n B h n1 h1):Ty n B h n2 h2:=⟨Nat.le_trans t.1 hn,t.2.ext x t.1⟩
theorem Ty.a (x:Exa lo h1 h2)(hl:n≤lo)(hn:n≤n2)(t:Ty n B h n1 h1):Ty n B h n2 h2:=⟨hn,t.2.ext x.e hl⟩
theorem Ty.o (x:Only b h1 h2)(hb:3*n≤b∨b∈B)(t:Ty n B h n1 h1):Ty n B h n1 h2:=⟨t.1,t.2.st x hb⟩
theorem Ty.s (x:Sto b h1 h2)(hb:3*n≤b∨b∈B)(t:Ty n B h n1 h1):Ty n B h n1 h2:=⟨t.1,t.2.st x.1 hb⟩
theorem Ty.l (x:ExtB n1 C h1 h2)(hn:n1≤n2)(hC:∀k∈C,k∈B∨3*n≤k)(t:Ty n B h n1 h1):Ty n B h n2 h2:=⟨Nat.le_trans t.1 hn,t.2.trans x t.1 hC⟩
end
theorem Sl.trG {h:HF}{n:Nat}(s:Sl h n 1 v cl)(hcl:∀x∈cl,nu x=false)(t:Tr n h n' h'):Sl h' n' 1 v cl:=by
 cases s with
 |nil ha=>exact .nil (vt ha t.1)
 | @at_ b2 off len cap x cs2 c2 hb hx hc hcap hl he=>
  have hb':b2<3*n':=by have:=t.1;omega
  rcases t.2 b2 hb with e|⟨cs,e,hp,hu⟩
  ·exact .at_ hb' (e.trans hx) hc hcap hl he
  by_cases h0:len=0
  ·subst h0
   have:cl=[]:=by rw [←he];simp
   subst this
   exact .nil (.inr ⟨_,_,_,rfl,hb'⟩)
  exfalso
  rw [hp] at hx
  cases hx
  injection hc with hc
  subst hc
  have hL:cl.length=len:=by rw [←he,List.length_take,List.length_drop];omega
  obtain ⟨d,L',rfl⟩:∃d L',cl=d::L':=by
   cases cl with
   |nil=>exact absurd hL.symm h0
   |cons d L'=>exact ⟨d,L',rfl⟩
  have hm:d∈cs:=by
   have:d∈(cs.drop off).take (len*1):=by rw [he];exact List.mem_cons_self
   exact List.mem_of_mem_drop (List.mem_of_mem_take this)
  have:=List.all_eq_true.1 hu _ hm
  rw [hcl d List.mem_cons_self] at this
  cases this
theorem WW.t {h:HF}{n:Nat}{a:Option Addr}{l c m:Nat}(i:WW h n a l c m)(t:Tr n h n' h'):WW h' n' a l c m:=by
 obtain ⟨L,h1,h2,h3⟩:=i
 exact ⟨L,h1.trG (fun x hx=>by obtain ⟨d,_,rfl⟩:=List.mem_map.1 hx;rfl) t,h2,h3⟩
theorem IW.t {h:HF}{n:Nat}{b:Bool}{a:Option Addr}{l c:Nat}{x:Int}(i:IW h n b a l c x)(t:Tr n h n' h'):IW h' n' b a l c x:=⟨i.1,i.2.t t⟩
theorem GG.t {h:HF}{n:Nat}(g:GG h n)(t:Tr n h n' h'):GG h' n':=by
 obtain ⟨⟨g1,g2,g3⟩,g4⟩:=g
 have f:∀c x,h c=some x→(∀cs e,x=.row cs e→cs.all nu=false)→c<60→h' c=some x:=by
  intro c x hp hu hc
  rcases t.2 c zo with e1|⟨cs2,e2,hq,hv⟩
  ·rw [e1,hp]
  rw [hp] at hq
  injection hq with hq
  rw [hu _ _ hq] at hv
  cases hv
 refine ⟨⟨f _ _ g1 ?_ ?_,f _ _ g2 ?_ ?_,f _ _ g3 ?_ ?_⟩,Nat.le_trans g4 t.1⟩<;>first|decide|(intro cs e q;cases q<;>rfl)
theorem GG.x {h:HF}{n:Nat}(g:GG h n)(t:Tx n h n' h'):GG h' n':=g.ext t.2 t.1
theorem IW.x {h:HF}{n:Nat}{b:Bool}{a:Option Addr}{l c:Nat}{x:Int}(i:IW h n b a l c x)(t:Tx n h n' h'):IW h' n' b a l c x:=i.ext t.2 t.1
theorem WW.x {h:HF}{n:Nat}{a:Option Addr}{l c m:Nat}(i:WW h n a l c m)(t:Tx n h n' h'):WW h' n' a l c m:=i.ext t.2 t.1
theorem Sl.x {h:HF}{n:Nat}(s:Sl h n sz v c)(t:Tx n h n' h'):Sl h' n' sz v c:=s.ext t.2 t.1
theorem zt {n:Nat}{h:HF}(t:Tr n h n' h':=by (repeat (first|exact Tr.refl _ _|(apply Tr.e;assumption;(first|assumption|exact Nat.le_refl _|exact Nat.le_succ _|omega))|(apply Tr.s;assumption)))):Tr n h n' h':=t
theorem zx {n:Nat}{h:HF}(t:Tx n h n' h':=by (repeat (first|exact Tx.refl _ _|(apply Tx.e;assumption;(first|assumption|exact Nat.le_refl _|exact Nat.le_succ _|omega))|(apply Tx.a;assumption;omega;omega)|(apply Tx.s;assumption;omega)|(apply Tx.o;assumption;omega)|(apply Tx.l;assumption;(first|assumption|exact Nat.le_refl _|exact Nat.le_succ _|omega);(intro b hb;simp only [List.mem_cons,List.not_mem_nil,or_false] at hb<;>omega))))):Tx n h n' h':=t
theorem zy {n:Nat}{B:List Nat}{h:HF}(t:Ty n B h n' h':=by (repeat (first|exact Ty.refl _ _ _|(apply Ty.e;assumption;(first|assumption|exact Nat.le_refl _|exact Nat.le_succ _|omega))|(apply Ty.a;assumption;omega;omega)|(apply Ty.s;assumption;(first|(left;omega)|(right;simp)))|(apply Ty.o;assumption;(first|(left;omega)|(right;simp)))|(apply Ty.l;assumption;(first|assumption|exact Nat.le_refl _|exact Nat.le_succ _|omega);(intro b hb;simp only [List.mem_cons,List.not_mem_nil,or_false] at hb ⊢ <;>omega))))):ExtB n B h h':=t.2
theorem zp {b:Nat}{h:HF}{x:Option BF}(t:h b=x:=by (repeat (first|assumption|(apply Ext.zz;assumption;omega)|(apply Sto.zz;assumption;omega)|(apply Only.zz;assumption;omega)|(apply Exa.zz;assumption;omega)|(apply ExtB.zz;assumption;omega;(simp only [List.mem_cons,List.not_mem_nil,or_false,not_false_eq_true]<;>omega))))):h b=x:=t
theorem ldG {h:HF}{b:Nat}{e:TypeId}{r:List Value}(L:List Value)(ha:GL.isAgg E ty=some true)(hi:E.inf ty=some (sz,bt,z))(hb:h b=some (.row c e))(hc:c.drop off=L++r)(hl:L.length=sz)(h1:0<L.length:=by exact Nat.succ_pos _):yn E ty h ⟨b,off,none⟩=some (.agg L.toArray):=by
 have h2:=congrArg List.length hc
 rw [List.length_drop,List.length_append] at h2
 refine zL (cs:=L) ⟨ha,hi⟩ hb rfl zo ?_
 rw [hc,←hl,List.take_left]
theorem ld1 {h:HF}{b:Nat}{e:TypeId}{r:List Value}(ha:GL.isAgg E ty=some true)(hi:E.inf ty=some (1,bt,z))(hb:h b=some (.row c e))(hc:c.drop off=x1::r):yn E ty h ⟨b,off,none⟩=some (.agg #[x1]):=ldG [x1] ha hi hb hc rfl
theorem ld2 {h:HF}{b:Nat}{e:TypeId}{r:List Value}(ha:GL.isAgg E ty=some true)(hi:E.inf ty=some (2,bt,z))(hb:h b=some (.row c e))(hc:c.drop off=x1::x2::r):yn E ty h ⟨b,off,none⟩=some (.agg #[x1,x2]):=ldG [x1,x2] ha hi hb hc rfl
theorem ld3 {h:HF}{b:Nat}{e:TypeId}{r:List Value}(ha:GL.isAgg E ty=some true)(hi:E.inf ty=some (3,bt,z))(hb:h b=some (.row c e))(hc:c.drop off=x1::x2::x3::r):yn E ty h ⟨b,off,none⟩=some (.agg #[x1,x2,x3]):=ldG [x1,x2,x3] ha hi hb hc rfl
theorem ld4 {h:HF}{b:Nat}{e:TypeId}{r:List Value}(ha:GL.isAgg E ty=some true)(hi:E.inf ty=some (4,bt,z))(hb:h b=some (.row c e))(hc:c.drop off=x1::x2::x3::x4::r):yn E ty h ⟨b,off,none⟩=some (.agg #[x1,x2,x3,x4]):=ldG [x1,x2,x3,x4] ha hi hb hc rfl
theorem ld5 {h:HF}{b:Nat}{e:TypeId}{r:List Value}(ha:GL.isAgg E ty=some true)(hi:E.inf ty=some (5,bt,z))(hb:h b=some (.row c e))(hc:c.drop off=x1::x2::x3::x4::x5::r):yn E ty h ⟨b,off,none⟩=some (.agg #[x1,x2,x3,x4,x5]):=ldG [x1,x2,x3,x4,x5] ha hi hb hc rfl
theorem ld6 {h:HF}{b:Nat}{e:TypeId}{r:List Value}(ha:GL.isAgg E ty=some true)(hi:E.inf ty=some (6,bt,z))(hb:h b=some (.row c e))(hc:c.drop off=x1::x2::x3::x4::x5::x6::r):yn E ty h ⟨b,off,none⟩=some (.agg #[x1,x2,x3,x4,x5,x6]):=ldG [x1,x2,x3,x4,x5,x6] ha hi hb hc rfl
theorem ld10 {h:HF}{b:Nat}{e:TypeId}{r:List Value}(ha:GL.isAgg E ty=some true)(hi:E.inf ty=some (10,bt,z))(hb:h b=some (.row c e))(hc:c.drop off=x1::x2::x3::x4::x5::x6::x7::x8::x9::x10::r):yn E ty h ⟨b,off,none⟩=some (.agg #[x1,x2,x3,x4,x5,x6,x7,x8,x9,x10]):=ldG [x1,x2,x3,x4,x5,x6,x7,x8,x9,x10] ha hi hb hc rfl
theorem ld11 {h:HF}{b:Nat}{e:TypeId}{x11:Value}{r:List Value}(ha:GL.isAgg E ty=some true)(hi:E.inf ty=some (11,bt,z))(hb:h b=some (.row c e))(hc:c.drop off=x1::x2::x3::x4::x5::x6::x7::x8::x9::x10::x11::r):yn E ty h ⟨b,off,none⟩=some (.agg #[x1,x2,x3,x4,x5,x6,x7,x8,x9,x10,x11]):=ldG [x1,x2,x3,x4,x5,x6,x7,x8,x9,x10,x11] ha hi hb hc rfl
structure Hd (q:Prop):Prop where
 go:q
def ezO:Op→Bool
 | .move _=>true
 | .assign _=>true
 | .pick _ _ _=>true
 | .nilCheck _=>true
 | .unOp _ _ _=>true
 | .fieldAddr _ _ _=>true
 | .extract _ _=>true
 |_=>false
def bnO:Op→Bool
 | .binOp _ _ _ _ _=>true
 |_=>false
def litB:Value→Bool
 | .bool b=>b|| !b
 |_=>false
def lnO:Op→Option Operand
 | .call c=>(match c.callee,c.args.toList with| .builtin .len,[x]=>some x|_,_=>none)
 |_=>none
section
variable {X:CtxF}{ops r:List Oper}{t:TF}{h:HF}{n:Nat}{w:List Nat}{Q:SV→Prop}{o:Oper}{d:Tmp}
theorem zgE (_:ezO o.op=true)(k:EO X ops (o::r) ⟨t,h,n,w⟩ Q):EO X ops (o::r) ⟨t,h,n,w⟩ Q:=k
theorem zgB (_:bnO o.op=true)(k:EO X ops (o::r) ⟨t,h,n,w⟩ Q):EO X ops (o::r) ⟨t,h,n,w⟩ Q:=k
theorem zgL {x:Operand}{b:Nat}{y:BF}(_:o.op=.load ty x)(_:evF t x=.pointer (some ⟨b,off,none⟩))(hb:h b=some y)(k:h b=some y→EO X ops (o::r) ⟨t,h,n,w⟩ Q):EO X ops (o::r) ⟨t,h,n,w⟩ Q:=k hb
theorem zgQ {x:Operand}{q:BinOp}(_:o.op=.binOp q ty x y ty')(_:litB (evF t x)=true)(_:litB (evF t y)=true)(k:EO X ops (o::r) ⟨t,h,n,w⟩ Q):EO X ops (o::r) ⟨t,h,n,w⟩ Q:=k
theorem zgN {x:Operand}{a:Option Addr}{l c:Nat}(_:lnO o.op=some x)(_:evF t x=.slice a l c)(k:EO X ops (o::r) ⟨t,h,n,w⟩ Q):EO X ops (o::r) ⟨t,h,n,w⟩ Q:=k
end
section
variable {X:CtxF}{ops r:List Oper}{ms:List Nat}{i m:Nat}{t:TF}{h:HF}{n:Nat}{w:List Nat}{al ld:List (Nat×Nat)}{ef:List (Nat×HF×List Nat)}{Q:SV→Prop}{o:Oper}{d:Tmp}
theorem zhE (_:ezO o.op=true)(k:ED X ops (o::r) (m::ms) i ⟨⟨t,h,n,w⟩,al,ld,ef⟩ Q):ED X ops (o::r) (m::ms) i ⟨⟨t,h,n,w⟩,al,ld,ef⟩ Q:=k
theorem zhB (_:bnO o.op=true)(k:ED X ops (o::r) (m::ms) i ⟨⟨t,h,n,w⟩,al,ld,ef⟩ Q):ED X ops (o::r) (m::ms) i ⟨⟨t,h,n,w⟩,al,ld,ef⟩ Q:=k
theorem zhL {x:Operand}{b:Nat}{y:BF}{g:HF}(_:o.op=.load ty x)(_:evF t x=.pointer (some ⟨b,off,none⟩))(_:ws m ef i h=(u,g))(hb:g b=some y)(k:g b=some y→ED X ops (o::r) (m::ms) i ⟨⟨t,h,n,w⟩,al,ld,ef⟩ Q):ED X ops (o::r) (m::ms) i ⟨⟨t,h,n,w⟩,al,ld,ef⟩ Q:=k hb
theorem zhQ {x:Operand}{q:BinOp}(_:o.op=.binOp q ty x y ty')(_:litB (evF t x)=true)(_:litB (evF t y)=true)(k:ED X ops (o::r) (m::ms) i ⟨⟨t,h,n,w⟩,al,ld,ef⟩ Q):ED X ops (o::r) (m::ms) i ⟨⟨t,h,n,w⟩,al,ld,ef⟩ Q:=k
theorem zhN {x:Operand}{a:Option Addr}{l c:Nat}(_:lnO o.op=some x)(_:evF t x=.slice a l c)(k:ED X ops (o::r) (m::ms) i ⟨⟨t,h,n,w⟩,al,ld,ef⟩ Q):ED X ops (o::r) (m::ms) i ⟨⟨t,h,n,w⟩,al,ld,ef⟩ Q:=k
end
theorem zG {p q:Prop}(k:q)(e:Hd q→p:=by intro k;(repeat (first|refine mc R3 ?_|(refine zgE rfl ?_;first|refine st_I R5 ?_|refine st_B R5 ?_|refine st_S R5 ?_|refine st_P R5 ?_|refine st_A R5 ?_|refine st_T R5 ?_|refine st_U R5 ?_|refine zF (v:=.pointer none) R4 rfl ?_)|(refine zgL rfl rfl (by (repeat (first|assumption|(apply Ext.zz;assumption;omega)|(apply Sto.zz;assumption;omega)|(apply Only.zz;assumption;omega)|(apply Exa.zz;assumption;omega)|(apply ExtB.zz;assumption;omega;(simp only [List.mem_cons,List.not_mem_nil,or_false,not_false_eq_true]<;>omega))))) (fun hblk=>?_);first|refine zK R5 (z8 rfl hblk R2) ?_|refine zK R5 (ld1 rfl rfl hblk rfl) ?_|refine zK R5 (ld2 rfl rfl hblk rfl) ?_|refine zK R5 (ld3 rfl rfl hblk rfl) ?_|refine zK R5 (ld4 rfl rfl hblk rfl) ?_|refine zK R5 (ld5 rfl rfl hblk rfl) ?_|refine zK R5 (ld6 rfl rfl hblk rfl) ?_|refine zK R5 (ld10 rfl rfl hblk rfl) ?_|refine zK R5 (ld11 rfl rfl hblk rfl) ?_)|(refine zgN rfl rfl ?_;refine st_I R5 ?_)|(refine zgQ rfl rfl rfl ?_;refine st_B R5 ?_)|(refine zgB rfl ?_;first|refine rM R6 zo ?_|refine jC R6 zo ?_|refine rN R6 zo ?_|refine qJ R6 zo ?_|refine qK R6 zo ?_|refine pW R6 zo ?_|refine pX R6 zo ?_|refine me R6 zo ?_|refine jD R6 zo ?_|refine jE R6 zo ?_|refine oS R6 zo ?_|refine oT R6 zo ?_|refine uG R6 zo ?_|refine tz R6 zo ?_)|simp only [NV,Nat.reduceEqDiff,reduceCtorEq]|refine (zc rfl).mpr ?_|refine (za rfl).mpr ?_));exact k.go):p:=e ⟨k⟩
theorem zH {p q:Prop}(k:q)(e:Hd q→p:=by intro k;(repeat (first|refine bk rfl rfl rfl ?_|(refine zhE rfl ?_;first|refine dr_I R5 ?_|refine dr_B R5 ?_|refine dr_S R5 ?_|refine dr_P R5 ?_|refine dr_A R5 ?_|refine dr_T R5 ?_|refine dr_U R5 ?_)|(refine zhL rfl rfl rfl (by (repeat (first|assumption|(apply Ext.zz;assumption;omega)|(apply Sto.zz;assumption;omega)|(apply Only.zz;assumption;omega)|(apply Exa.zz;assumption;omega)|(apply ExtB.zz;assumption;omega;(simp only [List.mem_cons,List.not_mem_nil,or_false,not_false_eq_true]<;>omega))))) (fun hblk=>?_);first|refine yf R6 (z8 rfl hblk R2) R2 ?_|refine yf R6 (ld1 rfl rfl hblk rfl) R2 ?_|refine yf R6 (ld2 rfl rfl hblk rfl) R2 ?_|refine yf R6 (ld3 rfl rfl hblk rfl) R2 ?_|refine yf R6 (ld4 rfl rfl hblk rfl) R2 ?_|refine yf R6 (ld5 rfl rfl hblk rfl) R2 ?_|refine yf R6 (ld6 rfl rfl hblk rfl) R2 ?_|refine yf R6 (ld10 rfl rfl hblk rfl) R2 ?_|refine yf R6 (ld11 rfl rfl hblk rfl) R2 ?_)|(refine zhN rfl rfl ?_;refine dr_I R5 ?_)|(refine zhQ rfl rfl rfl ?_;refine dr_B R5 ?_)|(refine zhB rfl ?_;first|refine zdb R6 zo ?_|refine zdc R6 zo ?_|refine zdd R6 zo ?_|refine zde R6 zo ?_|refine zdf R6 zo ?_|refine zdg R6 zo ?_|refine zdh R6 zo ?_|refine zdi R6 zo ?_|refine zdj R6 zo ?_|refine zdk R6 zo ?_|refine bl R6 zo ?_|refine bm R6 zo ?_|refine bp R6 zo ?_|refine bj R6 zo ?_)|simp only [NV,Nat.reduceEqDiff,reduceCtorEq]|refine (zc rfl).mpr ?_|refine (za rfl).mpr ?_));exact k.go):p:=e ⟨k⟩
theorem zJ {p q:Prop}(k:q)(e:Hd q→p:=by intro k;refine zH ?_;refine zG ?_;exact k.go):p:=e ⟨k⟩
section
variable {X:CtxF}{nt kk n0:Nat}{ops r:List Oper}{t:TF}{h:HF}{n:Nat}{w:List Nat}{Q:SV→Prop}{o:Oper}{d:Tmp}
theorem zg1 {m b i c:Nat}{r:List (Nat×Nat)}(h:c≠b)(k:yk m [b] r=true):yk m [b] ((i,c)::r)=true:=by
 have hm:memN c [b]=false:=by
  unfold memN
  cases he:Nat.beq c b with
  |false=>rfl
  |true=>exact absurd (Nat.eq_of_beq_eq_true he) h
 unfold yk
 rw [hm,Bool.not_false,Bool.or_true]
 exact k
theorem vc_A (h:v=.agg ⟨cs⟩):zl v=cs:=by
 subst h
 rfl
theorem sA {e:TypeId}(k:∀h',h' (3*n+2)=some (.row cs e)→Ext n h h'→EO X ops r ⟨upd t d (.pointer (some ⟨3*n+2,0,none⟩)),h',n+1,w⟩ Q)(hw:zg ops t o=true:=by exact rfl)(hd:o.dst=some d:=by exact rfl)(hn:zm X.nt (some d)=true:=by exact rfl)(ho:o.op=.alloc e:=by exact rfl)(hi:X.E.inf e=some (sz,bt,z):=by exact rfl)(hz:zl z=cs:=by first|exact vc_A rfl|exact rfl):EO X ops (o::r) ⟨t,h,n,w⟩ Q:=vk cs ⟨hw,hd,hn,ho,hi,hz⟩ k
theorem sB {e:TypeId}(cs:List Value)(k:∀h',h' (3*n+2)=some (.row cs e)→Ext n h h'→EO X ops r ⟨upd t d (.pointer (some ⟨3*n+2,0,none⟩)),h',n+1,w⟩ Q)(hw:zg ops t o=true:=by exact rfl)(hd:o.dst=some d:=by exact rfl)(hn:zm X.nt (some d)=true:=by exact rfl)(hc:cls o.op=2:=by exact rfl)(hm:mkE X.E o.op (evF t)=some ⟨cs,e,false,none⟩:=by exact rfl):EO X ops (o::r) ⟨t,h,n,w⟩ Q:=nT cs ⟨hw,hd,hn,hc,hm⟩ k
theorem sC {P:Value→HF→Nat→Prop}(hcall:CX X.C f args h n P)(k:∀v h' n',P v h' n'→n≤n'→Ext n h h'→EO X ops r ⟨upd t d v,h',n',w⟩ Q)(hw:zg ops t o=true:=by exact rfl)(hd:o.dst=some d:=by exact rfl)(hn:zm X.nt (some d)=true:=by exact rfl)(hc:cls o.op=3:=by exact rfl)(he:effF X.E o.op (evF t) h n=some (.enter f args):=by exact rfl):EO X ops (o::r) ⟨t,h,n,w⟩ Q:=oL ⟨hw,hd,hn,hc,he⟩ hcall k
theorem sT (cs:Array Value)(k:EO X ops r ⟨upd t d (.agg cs),h,n,w⟩ Q)(hw:zg ops t o=true:=by exact rfl)(hd:o.dst=some d:=by exact rfl)(hn:zm X.nt (some d)=true:=by exact rfl)(hc:cls o.op=0:=by exact rfl)(hv:yr X.E o.op (evF t)=some (.agg cs):=by exact rfl):EO X ops (o::r) ⟨t,h,n,w⟩ Q:=st_A ⟨hw,hd,hn,hc,hv⟩ k
theorem sS {a x:Operand}{b:Nat}{e:TypeId}(c':List Value)(k:∀h',h' b=some (.row c' e)→Sto b h h'→EO (ctx kk n0 nt) ops r ⟨t,h',n,w⟩ Q)(hw:zg ops t o=true:=by exact rfl)(hd:o.dst=none:=by exact rfl)(ho:o.op=.store ty a x:=by exact rfl)(hi:env.inf ty=some (sz,bt,z):=by exact rfl)(ha:evF t a=.pointer (some ⟨b,off,none⟩):=by exact rfl)(hb:h b=some (.row c e):=by exact zp)(hu:c.all nu=true:=by exact rfl)(hx:zl (evF t x)=cs:=by exact rfl)(hs:cs.length=sz:=by exact rfl)(h1:ones cs=true:=by exact rfl)(hl:off+sz≤c.length:=by exact zb)(hsp:zn c off cs=c':=by exact rfl)(hnew:3*n0≤b:=by omega):EO (ctx kk n0 nt) ops (o::r) ⟨t,h,n,w⟩ Q:=ju c' ⟨hw,hd,ho,hi,ha⟩ hb hx hs h1 hl hsp hnew fun h' p q=>k h' p ⟨q,_,_,hb,hu⟩
end
section
variable {X:CtxF}{nt kk n0:Nat}{ops r:List Oper}{ms:List Nat}{i m:Nat}{t:TF}{h:HF}{n:Nat}{w:List Nat}{al ld:List (Nat×Nat)}{ef:List (Nat×HF×List Nat)}{Q:SV→Prop}{o:Oper}{d:Tmp}
theorem dB {e:TypeId}(cs:List Value)(k:∀h',h' (3*n+2)=some (.row cs e)→Ext n h h'→ED X ops r ms (i+1) ⟨⟨upd t d (.pointer (some ⟨3*n+2,0,none⟩)),h',n+1,w⟩,(i,3*n+2)::al,ld,ef⟩ Q)(hw:zg ops t o=true:=by exact rfl)(hd:o.dst=some d:=by exact rfl)(hn:zm X.nt (some d)=true:=by exact rfl)(hc:cls o.op=2:=by exact rfl)(hm:mkE X.E o.op (evF t)=some ⟨cs,e,false,none⟩:=by exact rfl):ED X ops (o::r) (m::ms) i ⟨⟨t,h,n,w⟩,al,ld,ef⟩ Q:=zgc cs hw hd hn hc hm k
theorem dC {P:Value→HF→Nat→Prop}(hcall:CX X.C f args h n P)(k:∀v h' n',P v h' n'→n≤n'→Ext n h h'→ED X ops r ms (i+1) ⟨⟨upd t d v,h',n',w⟩,al,ld,(i,h,[])::ef⟩ Q)(hw:zg ops t o=true:=by exact rfl)(hd:o.dst=some d:=by exact rfl)(hn:zm X.nt (some d)=true:=by exact rfl)(hc:cls o.op=3:=by exact rfl)(he:effF X.E o.op (evF t) h n=some (.enter f args):=by exact rfl)(h1:xR m ef=true:=by exact rfl)(h2:wi m al=true:=by exact rfl):ED X ops (o::r) (m::ms) i ⟨⟨t,h,n,w⟩,al,ld,ef⟩ Q:=zdt hw hd hn hc he hcall h1 h2 k
theorem dT (cs:Array Value)(k:ED X ops r ms (i+1) ⟨⟨upd t d (.agg cs),h,n,w⟩,al,ld,ef⟩ Q)(hw:zg ops t o=true:=by exact rfl)(hd:o.dst=some d:=by exact rfl)(hn:zm X.nt (some d)=true:=by exact rfl)(hc:(cls o.op==0||cls o.op==4)=true:=by exact rfl)(hv:yr X.E o.op (evF t)=some (.agg cs):=by exact rfl):ED X ops (o::r) (m::ms) i ⟨⟨t,h,n,w⟩,al,ld,ef⟩ Q:=dr_A ⟨hw,hd,hn,hc,hv⟩ k
theorem dS {a x:Operand}{b:Nat}{e:TypeId}(c':List Value)(k:∀h',h' b=some (.row c' e)→Sto b h h'→ED (ctx kk n0 nt) ops r ms (i+1) ⟨⟨t,h',n,w⟩,al,ld,(i,h,[b])::ef⟩ Q)(hw:zg ops t o=true:=by exact rfl)(hd:o.dst=none:=by exact rfl)(ho:o.op=.store ty a x:=by exact rfl)(hi:env.inf ty=some (sz,bt,z):=by exact rfl)(ha:evF t a=.pointer (some ⟨b,off,none⟩):=by exact rfl)(hb:h b=some (.row c e):=by exact zp)(hu:c.all nu=true:=by exact rfl)(hx:zl (evF t x)=cs:=by exact rfl)(hs:cs.length=sz:=by exact rfl)(h1:ones cs=true:=by exact rfl)(hl:off+sz≤c.length:=by exact zb)(hsp:zn c off cs=c':=by exact rfl)(hnew:3*n0≤b:=by omega)(g1:xR m ef=true:=by exact rfl)(g2:wi m al=true:=by exact rfl)(g3:yk m [b] ld=true:=by first|exact rfl|(repeat (first|exact rfl|(apply zg1;omega)))):ED (ctx kk n0 nt) ops (o::r) (m::ms) i ⟨⟨t,h,n,w⟩,al,ld,ef⟩ Q:=zgb c' hw hd ho hi ha hb hx hs h1 hl hsp hnew g1 g2 g3 fun h' p q=>k h' p ⟨q,_,_,hb,hu⟩
end
theorem zct {s:SV}{a:Tmp}{b:Nat}{y:BF}{r:List ResultVar}(_:s.t a=.pointer (some ⟨b,off,none⟩))(hb:s.h b=some y)(k:s.h b=some y→resF env s (.cell a ty::r)=some vs):resF env s (.cell a ty::r)=some vs:=k hb
theorem zq {p:Prop}{P:Value→HF→Nat→Prop}{e:Ex}{t:TF}{h:HF}{n0 n:Nat}(hp:P (re vs) h n)(go:Hd (RetH fn (Gw n0 h0 P) e ⟨t,h,n,[]⟩)→p:=by intro k;refine zH ?_;refine zG ?_;exact k.go)(he:tN e=true:=by exact rfl)(hr:resF env ⟨t,h,n,[]⟩ fn.results.toList=some vs:=by (repeat (first|exact rP|(apply y6 (v:=.bool _);exact rfl)|(apply y6 (v:=.int _ _);exact rfl)|(apply y6 (v:=.slice _ _ _);exact rfl)|(apply y6 (v:=.agg #[_,_]);exact rfl)|(apply y6 (v:=.agg #[_,_,_,_]);exact rfl)|(apply y6 (v:=.string _);exact rfl)|(apply y6;exact rfl)|(apply zct;exact rfl;(focus ((repeat (first|assumption|(apply Ext.zz;assumption;omega)|(apply Sto.zz;assumption;omega)|(apply Only.zz;assumption;omega)|(apply Exa.zz;assumption;omega)|(apply ExtB.zz;assumption;omega;(simp only [List.mem_cons,List.not_mem_nil,or_false,not_false_eq_true]<;>omega))));done));intro hblk;first|(apply wj;exact rfl;exact z8 rfl hblk R2)|(apply wj;exact rfl;exact ld1 rfl rfl hblk rfl)|(apply wj;exact rfl;exact ld2 rfl rfl hblk rfl)|(apply wj;exact rfl;exact ld3 rfl rfl hblk rfl)|(apply wj;exact rfl;exact ld4 rfl rfl hblk rfl)|(apply wj;exact rfl;exact ld5 rfl rfl hblk rfl)|(apply wj;exact rfl;exact ld6 rfl rfl hblk rfl)|(apply wj;exact rfl;exact ld10 rfl rfl hblk rfl)|(apply wj;exact rfl;exact ld11 rfl rfl hblk rfl)))))(hf:uK vs=false:=by exact rfl)(hx:Tx n0 h0 n h:=by exact zx):p:=go ⟨retX vs ⟨he,hr,hf⟩ hx.1 hx.2 hp⟩
theorem zf {p:Prop}{P:Value→Prop}{e:Ex}{s:SV}(hp:P (re vs))(go:Hd (RetF fn P e s)→p:=by intro k;refine zH ?_;refine zG ?_;exact k.go)(he:tN e=true:=by exact rfl)(hr:resF env s fn.results.toList=some vs:=by (repeat (first|exact rP|(apply y6 (v:=.bool _);exact rfl)|(apply y6 (v:=.int _ _);exact rfl)|(apply y6 (v:=.slice _ _ _);exact rfl)|(apply y6 (v:=.agg #[_,_]);exact rfl)|(apply y6 (v:=.agg #[_,_,_,_]);exact rfl)|(apply y6 (v:=.string _);exact rfl)|(apply y6;exact rfl)|(apply zct;exact rfl;(focus ((repeat (first|assumption|(apply Ext.zz;assumption;omega)|(apply Sto.zz;assumption;omega)|(apply Only.zz;assumption;omega)|(apply Exa.zz;assumption;omega)|(apply ExtB.zz;assumption;omega;(simp only [List.mem_cons,List.not_mem_nil,or_false,not_false_eq_true]<;>omega))));done));intro hblk;first|(apply wj;exact rfl;exact z8 rfl hblk R2)|(apply wj;exact rfl;exact ld1 rfl rfl hblk rfl)|(apply wj;exact rfl;exact ld2 rfl rfl hblk rfl)|(apply wj;exact rfl;exact ld3 rfl rfl hblk rfl)|(apply wj;exact rfl;exact ld4 rfl rfl hblk rfl)|(apply wj;exact rfl;exact ld5 rfl rfl hblk rfl)|(apply wj;exact rfl;exact ld6 rfl rfl hblk rfl)|(apply wj;exact rfl;exact ld10 rfl rfl hblk rfl)|(apply wj;exact rfl;exact ld11 rfl rfl hblk rfl)))))(hf:uK vs=true:=by exact rfl)(hw:s.w=[]:=by exact rfl):p:=go ⟨retF vs he hr ⟨hf,hw⟩ hp⟩
theorem sF {X:CtxF}{c:Code}{t:TF}{h:HF}{n:Nat}{w:List Nat}{Q:Ex→SV→Prop}(live:α→List (Nat×Value))(I:α→HF→Nat→List Nat→Prop)(μ:α→Nat)(a:α)(hI:I a h n w)(round:∀a t h n w,I a h n w→EC X c ⟨mY t (live a),h,n,w⟩ (rW live I μ a Q))(hl:wz t (live a):=by repeat (first|exact trivial|refine ⟨rfl,?_⟩))(hm:μ a<X.L:=by show _<LL;unfold LL;(try dsimp only);omega):EC X (.loop c) ⟨t,h,n,w⟩ Q:=zV live I μ a hl hI hm round
theorem sK {live:α→List (Nat×Value)}{I:α→HF→Nat→List Nat→Prop}{μ:α→Nat}{a:α}{Q:Ex→SV→Prop}{t:TF}{h:HF}{n:Nat}{w:List Nat}(a':α)(h3:I a' h n w)(h1:μ a'<μ a:=by (try dsimp only);omega)(h2:wz t (live a'):=by repeat (first|exact trivial|refine ⟨rfl,?_⟩)):rW live I μ a Q .normal ⟨t,h,n,w⟩:=goOn a' h1 h2 h3
end
section
variable {h:HF}{cx cy lx ly n:Nat}{bx sx sy:Bool}{ax ay:Option Addr}
theorem jW (k:Nat){x:Int}(ix:IW h n sx ax lx cx x):VF (cal (k+1)) 63 [.agg #[.bool sx,.slice ax lx cx]] h n fun v=>∃b:Bool,v=.bool b∧(b=true↔x=0):=by
 refine zA (fn:=Tryz.f63) R4 ?_
 refine zG ?_
 refine sB [.bool sx,.slice ax lx cx] ?_
 intro h11 p11 x11
 refine zG ?_
 by_cases q12:(lx:Int)=0
 ·refine zf ?_
  exact ⟨_,rfl,by have:=ix.2.zero;simp only [reduceCtorEq,true_iff,false_iff];omega⟩
 refine zf ?_
 exact ⟨_,rfl,by have:=ix.2.zero;simp only [reduceCtorEq,true_iff,false_iff];omega⟩
theorem wa (k:Nat){x:Int}(ix:IW h n bx ax lx cx x):CX (cal (k+1)) 63 [.agg #[.bool bx,.slice ax lx cx]] h n (BV (x=0)):=(jW k ix).cx
theorem zgk (k:Nat){x:Int}(ix:IW h n sx ax lx cx x):VF (cal (k+1)) 105 [.agg #[.bool sx,.slice ax lx cx]] h n fun v=>∃s:Int,v=.int .i64 s∧(s= -1∧x<0∨s=0∧x=0∨s=1∧0<x):=by
 refine zA (fn:=Tryz.f105) R4 ?_
 refine zG ?_
 refine sB [.bool sx,.slice ax lx cx] ?_
 intro h11 p11 x11
 refine zG ?_
 by_cases q12:(lx:Int)=0
 ·refine zf ?_
  exact ⟨_,rfl,by have:=ix.2.zero;omega⟩
 refine zG ?_
 cases sx
 ·refine zf ?_
  exact ⟨_,rfl,by have:=ix.ge;have:=ix.2.zero;omega⟩
 refine zf ?_
 exact ⟨_,rfl,by have:=ix.lt;have:=ix.2.zero;omega⟩
theorem zh6 (k:Nat){x:Int}(ix:IW h n bx ax lx cx x):CX (cal (k+1)) 105 [.agg #[.bool bx,.slice ax lx cx]] h n (SV3 x):=(zgk k ix).cx
theorem ou (k:Nat){x:Int}(ix:IW h n bx ax lx cx x):CX (cal (k+1)) 95 [.agg #[.bool bx,.slice ax lx cx]] h n (BV (x=1)):=by
 obtain ⟨e,L,hs,hN,hv⟩:=ix
 refine (zbi k hs hN).cx.mono ?_
 rintro _ _ _ rfl
 refine ⟨_,rfl,?_⟩
 rw [hv,e,Bool.and_eq_true,Bool.not_eq_true',decide_eq_false_iff_not,decide_eq_true_iff]
 omega
theorem negX (k:Nat){x:Int}(ix:IW h n sx ax lx cx x):CX (cal (k+2)) 125 [.agg #[.bool sx,.slice ax lx cx]] h n (IV (-x)):=by
 refine zr (fn:=Tryz.f125) R4 ?_
 refine zG ?_
 refine sB [.bool sx,.slice ax lx cx] ?_
 intro h11 p11 x11
 refine sA ?_
 intro h12 p12 x12
 refine zG ?_
 cases sx
 ·refine zG ?_
  refine sC (yH _ (ix.t zt).2 true) ?_
  rintro _ h13 n13 ⟨b13,a13,l13,c13,rfl,i13⟩ y13 x13
  refine sS [.bool b13,.slice a13 l13 c13] ?_
  intro h14 p14 o14
  refine zq ?_
  exact ⟨_,_,_,_,rfl,(i13.t zt).as (by have:=ix.ge;unfold sgZ;(try simp only [Bool.not_true,Bool.not_false,if_true,if_false,Bool.false_eq_true]);omega)⟩
 refine zG ?_
 refine sC (yH _ (ix.t zt).2 false) ?_
 rintro _ h15 n15 ⟨b15,a15,l15,c15,rfl,i15⟩ y15 x15
 refine sS [.bool b15,.slice a15 l15 c15] ?_
 intro h16 p16 o16
 refine zq ?_
 exact ⟨_,_,_,_,rfl,(i15.t zt).as (by have:=ix.lt;unfold sgZ;(try simp only [Bool.not_true,Bool.not_false,if_true,if_false,Bool.false_eq_true]);omega)⟩
theorem addX (k:Nat){x:Int}{y:Int}(ix:IW h n sx ax lx cx x)(iy:IW h n sy ay ly cy y)(hx:x.natAbs<BW)(hy:y.natAbs<BW):CX (cal (k+4)) 91 [.agg #[.bool sx,.slice ax lx cx],.agg #[.bool sy,.slice ay ly cy]] h n (IV (x+y)):=by
 refine zr (fn:=Tryz.f91) R4 ?_
 refine zG ?_
 refine sB [.bool sx,.slice ax lx cx] ?_
 intro h11 p11 x11
 refine sB [.bool sy,.slice ay ly cy] ?_
 intro h12 p12 x12
 refine sA ?_
 intro h13 p13 x13
 refine zG ?_
 cases sx
 ·refine zG ?_
  cases sy
  ·refine zG ?_
   refine zj [0,1,0,4,0,16,60,127,255] rfl ?_
   refine zH ?_
   refine dC (zht _ (ix.t zt).2 (iy.t zt).2 zhh) ?_
   rintro _ h14 n14 ⟨a14,l14,c14,rfl,i14⟩ y14 x14
   refine dC (yH _ i14 false) ?_
   rintro _ h15 n15 ⟨b15,a15,l15,c15,rfl,i15⟩ y15 x15
   refine dS [.bool b15,.slice a15 l15 c15] ?_
   intro h16 p16 o16
   refine zq ?_
   exact ⟨_,_,_,_,rfl,(i15.t zt).as (by have:=ix.ge;have:=iy.ge;unfold sgZ;(try simp only [if_true,if_false,Bool.false_eq_true]);omega)⟩
  refine zG ?_
  refine sC (fE _ (ix.t zt).2 (iy.t zt).2 zhh) ?_
  rintro _ h17 n17 ⟨s17,rfl,q17⟩ y17 x17
  rcases q17 with ⟨rfl,q17⟩|⟨rfl,q17⟩|⟨rfl,q17⟩
  ·refine zG ?_
   refine zj [0,1,0,4,0,16,60,127,255] rfl ?_
   refine zH ?_
   refine dC (gj _ (iy.t zt).2 (ix.t zt).2 zhh zo) ?_
   rintro _ h18 n18 ⟨a18,l18,c18,rfl,i18⟩ y18 x18
   refine dC (yH _ i18 true) ?_
   rintro _ h19 n19 ⟨b19,a19,l19,c19,rfl,i19⟩ y19 x19
   refine dS [.bool b19,.slice a19 l19 c19] ?_
   intro h20 p20 o20
   refine zq ?_
   exact ⟨_,_,_,_,rfl,(i19.t zt).as (by have:=ix.ge;have:=iy.lt;unfold sgZ;(try simp only [if_true,if_false,Bool.false_eq_true]);omega)⟩
  ·refine zG ?_
   refine zj [0,1,0,4,0,16,60,127,255] rfl ?_
   refine zH ?_
   refine dC (gj _ (ix.t zt).2 (iy.t zt).2 zhh zo) ?_
   rintro _ h21 n21 ⟨a21,l21,c21,rfl,i21⟩ y21 x21
   refine dC (yH _ i21 false) ?_
   rintro _ h22 n22 ⟨b22,a22,l22,c22,rfl,i22⟩ y22 x22
   refine dS [.bool b22,.slice a22 l22 c22] ?_
   intro h23 p23 o23
   refine zq ?_
   exact ⟨_,_,_,_,rfl,(i22.t zt).as (by have:=ix.ge;have:=iy.lt;unfold sgZ;(try simp only [if_true,if_false,Bool.false_eq_true]);omega)⟩
  refine zG ?_
  refine zj [0,1,0,4,0,16,60,127,255] rfl ?_
  refine zH ?_
  refine dC (gj _ (ix.t zt).2 (iy.t zt).2 zhh zo) ?_
  rintro _ h24 n24 ⟨a24,l24,c24,rfl,i24⟩ y24 x24
  refine dC (yH _ i24 false) ?_
  rintro _ h25 n25 ⟨b25,a25,l25,c25,rfl,i25⟩ y25 x25
  refine dS [.bool b25,.slice a25 l25 c25] ?_
  intro h26 p26 o26
  refine zq ?_
  exact ⟨_,_,_,_,rfl,(i25.t zt).as (by have:=ix.ge;have:=iy.lt;unfold sgZ;(try simp only [if_true,if_false,Bool.false_eq_true]);omega)⟩
 refine zG ?_
 cases sy
 ·refine zG ?_
  refine sC (fE _ (ix.t zt).2 (iy.t zt).2 zhh) ?_
  rintro _ h27 n27 ⟨s27,rfl,q27⟩ y27 x27
  rcases q27 with ⟨rfl,q27⟩|⟨rfl,q27⟩|⟨rfl,q27⟩
  ·refine zG ?_
   refine zj [0,1,0,4,0,16,60,127,255] rfl ?_
   refine zH ?_
   refine dC (gj _ (iy.t zt).2 (ix.t zt).2 zhh zo) ?_
   rintro _ h28 n28 ⟨a28,l28,c28,rfl,i28⟩ y28 x28
   refine dC (yH _ i28 false) ?_
   rintro _ h29 n29 ⟨b29,a29,l29,c29,rfl,i29⟩ y29 x29
   refine dS [.bool b29,.slice a29 l29 c29] ?_
   intro h30 p30 o30
   refine zq ?_
   exact ⟨_,_,_,_,rfl,(i29.t zt).as (by have:=ix.lt;have:=iy.ge;unfold sgZ;(try simp only [if_true,if_false,Bool.false_eq_true]);omega)⟩
  ·refine zG ?_
   refine zj [0,1,0,4,0,16,60,127,255] rfl ?_
   refine zH ?_
   refine dC (gj _ (ix.t zt).2 (iy.t zt).2 zhh zo) ?_
   rintro _ h31 n31 ⟨a31,l31,c31,rfl,i31⟩ y31 x31
   refine dC (yH _ i31 true) ?_
   rintro _ h32 n32 ⟨b32,a32,l32,c32,rfl,i32⟩ y32 x32
   refine dS [.bool b32,.slice a32 l32 c32] ?_
   intro h33 p33 o33
   refine zq ?_
   exact ⟨_,_,_,_,rfl,(i32.t zt).as (by have:=ix.lt;have:=iy.ge;unfold sgZ;(try simp only [if_true,if_false,Bool.false_eq_true]);omega)⟩
  refine zG ?_
  refine zj [0,1,0,4,0,16,60,127,255] rfl ?_
  refine zH ?_
  refine dC (gj _ (ix.t zt).2 (iy.t zt).2 zhh zo) ?_
  rintro _ h34 n34 ⟨a34,l34,c34,rfl,i34⟩ y34 x34
  refine dC (yH _ i34 true) ?_
  rintro _ h35 n35 ⟨b35,a35,l35,c35,rfl,i35⟩ y35 x35
  refine dS [.bool b35,.slice a35 l35 c35] ?_
  intro h36 p36 o36
  refine zq ?_
  exact ⟨_,_,_,_,rfl,(i35.t zt).as (by have:=ix.lt;have:=iy.ge;unfold sgZ;(try simp only [if_true,if_false,Bool.false_eq_true]);omega)⟩
 refine zG ?_
 refine zj [0,1,0,4,0,16,60,127,255] rfl ?_
 refine zH ?_
 refine dC (zht _ (ix.t zt).2 (iy.t zt).2 zhh) ?_
 rintro _ h37 n37 ⟨a37,l37,c37,rfl,i37⟩ y37 x37
 refine dC (yH _ i37 true) ?_
 rintro _ h38 n38 ⟨b38,a38,l38,c38,rfl,i38⟩ y38 x38
 refine dS [.bool b38,.slice a38 l38 c38] ?_
 intro h39 p39 o39
 refine zq ?_
 exact ⟨_,_,_,_,rfl,(i38.t zt).as (by have:=ix.lt;have:=iy.lt;unfold sgZ;(try simp only [if_true,if_false,Bool.false_eq_true]);omega)⟩
theorem uN {b:Bool}{x y:Int}(h:b=(decide (x<0) != decide (y<0))):sgZ b (x.natAbs*y.natAbs)=x*y:=by
 subst h
 by_cases hx:x<0<;>by_cases hy:y<0
 ·rw [decide_eq_true hx,decide_eq_true hy]
  show ((x.natAbs*y.natAbs:Nat):Int)=_
  rw [Int.natCast_mul,Int.ofNat_natAbs_of_nonpos zo,Int.ofNat_natAbs_of_nonpos zo,Int.neg_mul_neg]
 ·rw [decide_eq_true hx,decide_eq_false hy]
  show -((x.natAbs*y.natAbs:Nat):Int)=_
  rw [Int.natCast_mul,Int.ofNat_natAbs_of_nonpos zo,Int.natAbs_of_nonneg zo,Int.neg_mul,Int.neg_neg]
 ·rw [decide_eq_false hx,decide_eq_true hy]
  show -((x.natAbs*y.natAbs:Nat):Int)=_
  rw [Int.natCast_mul,Int.natAbs_of_nonneg zo,Int.ofNat_natAbs_of_nonpos zo,Int.mul_neg,Int.neg_neg]
 rw [decide_eq_false hx,decide_eq_false hy]
 show ((x.natAbs*y.natAbs:Nat):Int)=_
 rw [Int.natCast_mul,Int.natAbs_of_nonneg zo,Int.natAbs_of_nonneg zo]
theorem oZ {b:Bool}{x y:Int}(h:b=(decide (x<0) != decide (y<0))):sgZ b (x.natAbs/y.natAbs)=x.tdiv y:=by
 subst h
 by_cases hx:x<0<;>by_cases hy:y<0
 ·obtain ⟨a,rfl⟩:∃a:Nat,x= -(a:Int):=⟨x.natAbs,zo⟩
  obtain ⟨c,rfl⟩:∃c:Nat,y= -(c:Int):=⟨y.natAbs,zo⟩
  rw [decide_eq_true hx,decide_eq_true hy,Int.neg_tdiv,Int.tdiv_neg,Int.neg_neg,Int.natAbs_neg,Int.natAbs_neg]
  rfl
 ·obtain ⟨a,rfl⟩:∃a:Nat,x= -(a:Int):=⟨x.natAbs,zo⟩
  obtain ⟨c,rfl⟩:∃c:Nat,y=(c:Int):=⟨y.natAbs,zo⟩
  rw [decide_eq_true hx,decide_eq_false hy,Int.neg_tdiv,Int.natAbs_neg]
  rfl
 ·obtain ⟨a,rfl⟩:∃a:Nat,x=(a:Int):=⟨x.natAbs,zo⟩
  obtain ⟨c,rfl⟩:∃c:Nat,y= -(c:Int):=⟨y.natAbs,zo⟩
  rw [decide_eq_false hx,decide_eq_true hy,Int.tdiv_neg,Int.natAbs_neg]
  rfl
 obtain ⟨a,rfl⟩:∃a:Nat,x=(a:Int):=⟨x.natAbs,zo⟩
 obtain ⟨c,rfl⟩:∃c:Nat,y=(c:Int):=⟨y.natAbs,zo⟩
 rw [decide_eq_false hx,decide_eq_false hy]
 rfl
theorem mulX (k:Nat){x:Int}{y:Int}(ix:IW h n sx ax lx cx x)(iy:IW h n sy ay ly cy y)(hx:x.natAbs<BW)(hy:y.natAbs<BW):CX (cal (k+5)) 92 [.agg #[.bool sx,.slice ax lx cx],.agg #[.bool sy,.slice ay ly cy]] h n (IV (x*y)):=by
 refine zr (fn:=Tryz.f92) R4 ?_
 refine zG ?_
 refine sB [.bool sx,.slice ax lx cx] ?_
 intro h11 p11 x11
 refine sB [.bool sy,.slice ay ly cy] ?_
 intro h12 p12 x12
 refine sA ?_
 intro h13 p13 x13
 refine zG ?_
 refine zj [0,1,0,4,15,0,32,0,128,480,1023,2047] rfl ?_
 refine zH ?_
 cases sx
 ·refine zH ?_
  cases sy
  ·refine zH ?_
   refine dC (za7 _ (ix.t zt).2 (iy.t zt).2 zhh) ?_
   rintro _ h14 n14 ⟨a14,l14,c14,rfl,i14⟩ y14 x14
   refine dC (yH _ i14 false) ?_
   rintro _ h15 n15 ⟨b15,a15,l15,c15,rfl,i15⟩ y15 x15
   refine dS [.bool b15,.slice a15 l15 c15] ?_
   intro h16 p16 o16
   refine zq ?_
   exact ⟨_,_,_,_,rfl,(i15.t zt).as (by have:=ix.ge;have:=iy.ge;exact uN (by simp<;>omega))⟩
  refine zH ?_
  refine dC (za7 _ (ix.t zt).2 (iy.t zt).2 zhh) ?_
  rintro _ h17 n17 ⟨a17,l17,c17,rfl,i17⟩ y17 x17
  refine dC (yH _ i17 true) ?_
  rintro _ h18 n18 ⟨b18,a18,l18,c18,rfl,i18⟩ y18 x18
  refine dS [.bool b18,.slice a18 l18 c18] ?_
  intro h19 p19 o19
  refine zq ?_
  exact ⟨_,_,_,_,rfl,(i18.t zt).as (by have:=ix.ge;have:=iy.lt;exact uN (by simp<;>omega))⟩
 refine zH ?_
 cases sy
 ·refine zH ?_
  refine dC (za7 _ (ix.t zt).2 (iy.t zt).2 zhh) ?_
  rintro _ h20 n20 ⟨a20,l20,c20,rfl,i20⟩ y20 x20
  refine dC (yH _ i20 true) ?_
  rintro _ h21 n21 ⟨b21,a21,l21,c21,rfl,i21⟩ y21 x21
  refine dS [.bool b21,.slice a21 l21 c21] ?_
  intro h22 p22 o22
  refine zq ?_
  exact ⟨_,_,_,_,rfl,(i21.t zt).as (by have:=ix.lt;have:=iy.ge;exact uN (by simp<;>omega))⟩
 refine zH ?_
 refine dC (za7 _ (ix.t zt).2 (iy.t zt).2 zhh) ?_
 rintro _ h23 n23 ⟨a23,l23,c23,rfl,i23⟩ y23 x23
 refine dC (yH _ i23 false) ?_
 rintro _ h24 n24 ⟨b24,a24,l24,c24,rfl,i24⟩ y24 x24
 refine dS [.bool b24,.slice a24 l24 c24] ?_
 intro h25 p25 o25
 refine zq ?_
 exact ⟨_,_,_,_,rfl,(i24.t zt).as (by have:=ix.lt;have:=iy.lt;exact uN (by simp<;>omega))⟩
theorem zek (k:Nat){x:Int}{y:Int}(ix:IW h n sx ax lx cx x)(iy:IW h n sy ay ly cy y)(hx:x.natAbs<BW)(hy:y.natAbs<BW)(hy0:y≠0):CX (cal (k+7)) 140 [.agg #[.bool sx,.slice ax lx cx],.agg #[.bool sy,.slice ay ly cy]] h n fun v h' n'=>∃b a l c g d e f,v=.tuple #[.agg #[.bool b,.slice a l c],.agg #[.bool g,.slice d e f]]∧IW h' n' b a l c (x.tdiv y)∧∃r,IW h' n' g d e f r:=by
 refine zr (fn:=Tryz.f140) R4 ?_
 refine zG ?_
 refine sB [.bool sx,.slice ax lx cx] ?_
 intro h11 p11 x11
 refine sB [.bool sy,.slice ay ly cy] ?_
 intro h12 p12 x12
 refine sA ?_
 intro h13 p13 x13
 refine sA ?_
 intro h14 p14 x14
 refine zG ?_
 by_cases q15:(ly:Int)=0
 ·refine zG ?_
  refine sT #[.bool false,.slice none 0 0] ?_
  refine sT #[.bool false,.slice none 0 0] ?_
  refine sS [.bool false,.slice none 0 0] ?_
  intro h16 p16 o16
  refine sS [.bool false,.slice none 0 0] ?_
  intro h17 p17 o17
  refine zG ?_
  exact absurd (iy.2.zero.1 zo) zo
 refine zG ?_
 refine sC (zin _ (ix.t zt).2 (iy.t zt).2 zhh zo) ?_
 rintro _ h18 n18 ⟨a18,l18,c18,d18,e18,f18,rfl,i18,j18⟩ y18 x18
 refine zG ?_
 refine zj [0,1,0,4,15,0,63,0,128,0,1023,2047,4095] rfl ?_
 refine zH ?_
 cases sx
 ·refine zH ?_
  cases sy
  ·refine zH ?_
   refine dC (yH _ i18 false) ?_
   rintro _ h19 n19 ⟨b19,a19,l19,c19,rfl,i19⟩ y19 x19
   refine zH ?_
   refine dC (yH _ (j18.t zt) false) ?_
   rintro _ h20 n20 ⟨b20,a20,l20,c20,rfl,i20⟩ y20 x20
   refine dS [.bool b19,.slice a19 l19 c19] ?_
   intro h21 p21 o21
   refine dS [.bool b20,.slice a20 l20 c20] ?_
   intro h22 p22 o22
   refine zq ?_
   exact ⟨_,_,_,_,_,_,_,_,rfl,(i19.t zt).as (by have:=ix.ge;have:=iy.ge;exact oZ (by simp<;>omega)),_,(i20.t zt)⟩
  refine zH ?_
  refine dC (yH _ i18 true) ?_
  rintro _ h23 n23 ⟨b23,a23,l23,c23,rfl,i23⟩ y23 x23
  refine zH ?_
  refine dC (yH _ (j18.t zt) false) ?_
  rintro _ h24 n24 ⟨b24,a24,l24,c24,rfl,i24⟩ y24 x24
  refine dS [.bool b23,.slice a23 l23 c23] ?_
  intro h25 p25 o25
  refine dS [.bool b24,.slice a24 l24 c24] ?_
  intro h26 p26 o26
  refine zq ?_
  exact ⟨_,_,_,_,_,_,_,_,rfl,(i23.t zt).as (by have:=ix.ge;have:=iy.lt;exact oZ (by simp<;>omega)),_,(i24.t zt)⟩
 refine zH ?_
 cases sy
 ·refine zH ?_
  refine dC (yH _ i18 true) ?_
  rintro _ h27 n27 ⟨b27,a27,l27,c27,rfl,i27⟩ y27 x27
  refine zH ?_
  refine dC (yH _ (j18.t zt) true) ?_
  rintro _ h28 n28 ⟨b28,a28,l28,c28,rfl,i28⟩ y28 x28
  refine dS [.bool b27,.slice a27 l27 c27] ?_
  intro h29 p29 o29
  refine dS [.bool b28,.slice a28 l28 c28] ?_
  intro h30 p30 o30
  refine zq ?_
  exact ⟨_,_,_,_,_,_,_,_,rfl,(i27.t zt).as (by have:=ix.lt;have:=iy.ge;exact oZ (by simp<;>omega)),_,(i28.t zt)⟩
 refine zH ?_
 refine dC (yH _ i18 false) ?_
 rintro _ h31 n31 ⟨b31,a31,l31,c31,rfl,i31⟩ y31 x31
 refine zH ?_
 refine dC (yH _ (j18.t zt) true) ?_
 rintro _ h32 n32 ⟨b32,a32,l32,c32,rfl,i32⟩ y32 x32
 refine dS [.bool b31,.slice a31 l31 c31] ?_
 intro h33 p33 o33
 refine dS [.bool b32,.slice a32 l32 c32] ?_
 intro h34 p34 o34
 refine zq ?_
 exact ⟨_,_,_,_,_,_,_,_,rfl,(i31.t zt).as (by have:=ix.lt;have:=iy.lt;exact oZ (by simp<;>omega)),_,(i32.t zt)⟩
theorem quoX (k:Nat){x:Int}{y:Int}(ix:IW h n sx ax lx cx x)(iy:IW h n sy ay ly cy y)(hx:x.natAbs<BW)(hy:y.natAbs<BW)(hy0:y≠0):CX (cal (k+8)) 94 [.agg #[.bool sx,.slice ax lx cx],.agg #[.bool sy,.slice ay ly cy]] h n (IV (x.tdiv y)):=by
 refine zr (fn:=Tryz.f94) R4 ?_
 refine zG ?_
 refine sB [.bool sx,.slice ax lx cx] ?_
 intro h11 p11 x11
 refine sB [.bool sy,.slice ay ly cy] ?_
 intro h12 p12 x12
 refine sA ?_
 intro h13 p13 x13
 refine zG ?_
 refine sC (ou _ (iy.t zt)) ?_
 rintro _ h14 n14 ⟨b14,rfl,bq14⟩ y14 x14
 rcases bvs bq14 with ⟨rfl,q14⟩|⟨rfl,q14⟩
 ·refine zG ?_
  refine sC (zek _ (ix.t zt) (iy.t zt) hx hy hy0) ?_
  rintro _ h15 n15 ⟨b15,a15,l15,c15,g15,d15,e15,f15,rfl,i15,r15,j15⟩ y15 x15
  refine zG ?_
  refine sA ?_
  intro h16 p16 x16
  refine sA ?_
  intro h17 p17 x17
  refine sS [.bool b15,.slice a15 l15 c15] ?_
  intro h18 p18 o18
  refine sS [.bool g15,.slice d15 e15 f15] ?_
  intro h19 p19 o19
  refine zG ?_
  refine sS [.bool b15,.slice a15 l15 c15] ?_
  intro h20 p20 o20
  refine zq ?_
  exact ⟨_,_,_,_,rfl,(i15.t zt)⟩
 refine zG ?_
 refine sS [.bool sx,.slice ax lx cx] ?_
 intro h21 p21 o21
 refine zq ?_
 exact ⟨_,_,_,_,rfl,(ix.t zt).as (by rw [q14,Int.tdiv_one])⟩
theorem gcdX (k:Nat){x:Int}{y:Int}(g:GG h n)(ix:IW h n sx ax lx cx x)(iy:IW h n sy ay ly cy y)(hx:x.natAbs<BW)(hy:y.natAbs<BW):CX (cal (k+8)) 93 [.agg #[.bool sx,.slice ax lx cx],.agg #[.bool sy,.slice ay ly cy]] h n (IV ((Nat.gcd x.natAbs y.natAbs:Nat):Int)):=by
 refine zr (fn:=Tryz.f93) R4 ?_
 refine zG ?_
 refine sB [.bool sx,.slice ax lx cx] ?_
 intro h11 p11 x11
 refine sB [.bool sy,.slice ay ly cy] ?_
 intro h12 p12 x12
 refine sA ?_
 intro h13 p13 x13
 refine zG ?_
 refine sC (zik _ (g.t zt) (ix.t zt).2 (iy.t zt).2 zhh) ?_
 rintro _ h14 n14 ⟨a14,l14,c14,rfl,i14⟩ y14 x14
 refine sT #[.bool false,.slice a14 l14 c14] ?_
 refine sS [.bool false,.slice a14 l14 c14] ?_
 intro h15 p15 o15
 refine zq ?_
 exact ⟨_,_,_,_,rfl,by rw [decide_eq_false];exact Int.not_lt.2 (Int.natCast_nonneg _),(i14.t zt)⟩
theorem bO (k:Nat){x:Int}{y:Int}(ix:IW h n sx ax lx cx x)(iy:IW h n sy ay ly cy y)(hx:x.natAbs<BW)(hy:y.natAbs<BW):VF (cal (k+4)) 100 [.agg #[.bool sx,.slice ax lx cx],.agg #[.bool sy,.slice ay ly cy]] h n fun v=>∃s:Int,v=.int .i64 s∧(s= -1∧x<y∨s=0∧x=y∨s=1∧y<x):=by
 refine zA (fn:=Tryz.f100) R4 ?_
 refine zG ?_
 refine sB [.bool sx,.slice ax lx cx] ?_
 intro h11 p11 x11
 refine sB [.bool sy,.slice ay ly cy] ?_
 intro h12 p12 x12
 refine zG ?_
 cases sx
 ·refine zG ?_
  cases sy
  ·refine zG ?_
   refine sC (fE _ (ix.t zt).2 (iy.t zt).2 zhh) ?_
   rintro _ h13 n13 ⟨s13,rfl,q13⟩ y13 x13
   rcases q13 with ⟨rfl,q13⟩|⟨rfl,q13⟩|⟨rfl,q13⟩
   ·refine zf ?_
    exact ⟨_,rfl,by have:=ix.ge;have:=iy.ge;omega⟩
   ·refine zf ?_
    exact ⟨_,rfl,by have:=ix.ge;have:=iy.ge;omega⟩
   refine zf ?_
   exact ⟨_,rfl,by have:=ix.ge;have:=iy.ge;omega⟩
  refine zf ?_
  exact ⟨_,rfl,by have:=ix.ge;have:=iy.lt;omega⟩
 refine zG ?_
 cases sy
 ·refine zf ?_
  exact ⟨_,rfl,by have:=ix.lt;have:=iy.ge;omega⟩
 refine zG ?_
 refine sC (fE _ (iy.t zt).2 (ix.t zt).2 zhh) ?_
 rintro _ h14 n14 ⟨s14,rfl,q14⟩ y14 x14
 rcases q14 with ⟨rfl,q14⟩|⟨rfl,q14⟩|⟨rfl,q14⟩
 ·refine zf ?_
  exact ⟨_,rfl,by have:=ix.lt;have:=iy.lt;omega⟩
 ·refine zf ?_
  exact ⟨_,rfl,by have:=ix.lt;have:=iy.lt;omega⟩
 refine zf ?_
 exact ⟨_,rfl,by have:=ix.lt;have:=iy.lt;omega⟩
theorem zfc (k:Nat){x:Int}{y:Int}(ix:IW h n sx ax lx cx x)(iy:IW h n sy ay ly cy y)(hx:x.natAbs<BW)(hy:y.natAbs<BW):VF (cal (k+4)) 149 [.agg #[.bool sx,.slice ax lx cx],.agg #[.bool sy,.slice ay ly cy]] h n fun v=>∃b:Bool,v=.bool b∧(b=true↔x=y):=by
 refine zA (fn:=Tryz.f149) R4 ?_
 refine zG ?_
 refine sB [.bool sx,.slice ax lx cx] ?_
 intro h11 p11 x11
 refine sB [.bool sy,.slice ay ly cy] ?_
 intro h12 p12 x12
 refine zG ?_
 cases sx
 ·refine zG ?_
  cases sy
  ·refine zG ?_
   refine sC (fE _ (ix.t zt).2 (iy.t zt).2 zhh) ?_
   rintro _ h13 n13 ⟨s13,rfl,q13⟩ y13 x13
   rcases q13 with ⟨rfl,q13⟩|⟨rfl,q13⟩|⟨rfl,q13⟩
   ·refine zf ?_
    exact ⟨_,rfl,by have:=ix.ge;have:=iy.ge;simp only [reduceCtorEq,true_iff,false_iff];omega⟩
   ·refine zf ?_
    exact ⟨_,rfl,by have:=ix.ge;have:=iy.ge;simp only [reduceCtorEq,true_iff,false_iff];omega⟩
   refine zf ?_
   exact ⟨_,rfl,by have:=ix.ge;have:=iy.ge;simp only [reduceCtorEq,true_iff,false_iff];omega⟩
  refine zf ?_
  exact ⟨_,rfl,by have:=ix.ge;have:=iy.lt;simp only [reduceCtorEq,true_iff,false_iff];omega⟩
 refine zG ?_
 cases sy
 ·refine zf ?_
  exact ⟨_,rfl,by have:=ix.lt;have:=iy.ge;simp only [reduceCtorEq,true_iff,false_iff];omega⟩
 refine zG ?_
 refine sC (fE _ (ix.t zt).2 (iy.t zt).2 zhh) ?_
 rintro _ h14 n14 ⟨s14,rfl,q14⟩ y14 x14
 rcases q14 with ⟨rfl,q14⟩|⟨rfl,q14⟩|⟨rfl,q14⟩
 ·refine zf ?_
  exact ⟨_,rfl,by have:=ix.lt;have:=iy.lt;simp only [reduceCtorEq,true_iff,false_iff];omega⟩
 ·refine zf ?_
  exact ⟨_,rfl,by have:=ix.lt;have:=iy.lt;simp only [reduceCtorEq,true_iff,false_iff];omega⟩
 refine zf ?_
 exact ⟨_,rfl,by have:=ix.lt;have:=iy.lt;simp only [reduceCtorEq,true_iff,false_iff];omega⟩
end
section
variable {l:Nat}{s:Nat}
def denZ (q:Rat):Int:=if q.den=1 then 0 else (q.den:Int)
theorem yZ:denZ q=0↔q.den=1:=by
 unfold denZ
 have:=q.den_pos
 split<;>omega
theorem vF (h:¬denZ q=0):denZ q=(q.den:Int):=by
 unfold denZ at*
 split
 ·rename_i h1;rw [if_pos h1] at h;exact absurd rfl h
 rfl
theorem w8 (x y:Rat):(x+y).num=(x.num*y.den+y.num*x.den)/((Nat.gcd (x.num*y.den+y.num*x.den).natAbs (x.den*y.den):Nat):Int):=by
 rw [Rat.add_def,Rat.normalize_eq]
theorem uo (x y:Rat):(x+y).den=(x.den*y.den)/Nat.gcd (x.num*y.den+y.num*x.den).natAbs (x.den*y.den):=by
 rw [Rat.add_def,Rat.normalize_eq]
theorem tI (x y:Rat):(x*y).num=(x.num*y.num)/((Nat.gcd (x.num*y.num).natAbs (x.den*y.den):Nat):Int):=by
 rw [Rat.mul_def,Rat.normalize_eq]
theorem tJ (x y:Rat):(x*y).den=(x.den*y.den)/Nat.gcd (x.num*y.num).natAbs (x.den*y.den):=by
 rw [Rat.mul_def,Rat.normalize_eq]
theorem tP (a b:Int)(m:Nat):Nat.gcd (a*m+b).natAbs m=Nat.gcd b.natAbs m:=by
 have h1:(Int.gcd (a*m+b) m)=Int.gcd b m:=by
  rw [Int.add_comm,Int.gcd_add_mul_right_left]
 simpa [Int.gcd] using h1
theorem iY {x y:Rat}(hx:denZ x=0)(hy:denZ y=0):(x+y).num=x.num+y.num∧denZ (x+y)=0:=by
 rw [yZ] at*
 have h1:=w8 x y
 have h2:=uo x y
 rw [hx,hy] at h1 h2
 simp at h1 h2
 exact ⟨h1,h2⟩
theorem aQ {x y:Rat}(hx:denZ x=0)(hy:¬denZ y=0):(x+y).num=x.num*denZ y+y.num∧denZ (x+y)=denZ y:=by
 have hy1:=vF hy
 rw [yZ] at hx hy
 have h1:=w8 x y
 have h2:=uo x y
 have hg:Nat.gcd (x.num*(y.den:Int)+y.num).natAbs y.den=1:=(tP x.num y.num y.den).trans y.reduced
 rw [hx] at h1 h2
 simp only [Nat.one_mul] at h1 h2
 have e:((1:Nat):Int)=1:=rfl
 rw [e,Int.mul_one,hg] at h1
 rw [e,Int.mul_one,hg,Nat.div_one] at h2
 rw [h1,hy1]
 refine ⟨by rw [e,Int.ediv_one],?_⟩
 unfold denZ
 rw [h2,if_neg hy]
theorem zdq {x y:Rat}(hx:¬denZ x=0)(hy:denZ y=0):(x+y).num=y.num*denZ x+x.num∧denZ (x+y)=denZ x:=by
 rw [Rat.add_comm]
 exact aQ hy hx
structure AddS (x y:Rat)(d l r:Nat)(N:Int)(s:Nat):Prop where
 hd:d=Nat.gcd x.den y.den
 hl:y.den=d*l
 hr:x.den=d*r
 hN:N=x.num*l+y.num*r
 hs:s=Nat.gcd N.natAbs d
theorem AddS.cop {x y:Rat}{r:Nat}{N:Int}(a:AddS x y d l r N s):Nat.gcd N.natAbs (r*l)=1:=by
 have hd0:0<d:=by rw [a.hd];exact Nat.gcd_pos_of_pos_left _ x.den_pos
 have hlr:Nat.Coprime l r:=by
  have h1:Nat.gcd x.den y.den=d*Nat.gcd r l:=by rw [a.hr,a.hl,Nat.gcd_mul_left]
  rw [←a.hd] at h1
  have:d*1=d*Nat.gcd r l:=zo
  have:=Nat.eq_of_mul_eq_mul_left hd0 this
  rw [Nat.coprime_iff_gcd_eq_one,Nat.gcd_comm];exact this.symm
 have hxr:Nat.Coprime x.num.natAbs r:=Nat.Coprime.coprime_dvd_right ⟨d,by rw [a.hr,Nat.mul_comm]⟩ x.reduced
 have hyl:Nat.Coprime y.num.natAbs l:=Nat.Coprime.coprime_dvd_right ⟨d,by rw [a.hl,Nat.mul_comm]⟩ y.reduced
 have h1:Nat.gcd N.natAbs r=1:=by
  have:Nat.gcd (y.num*(r:Int)+x.num*(l:Int)).natAbs r=1:=by
   rw [tP,Int.natAbs_mul,Int.natAbs_natCast]
   exact Nat.Coprime.mul_left hxr hlr
  rw [a.hN,Int.add_comm];exact this
 have h2:Nat.gcd N.natAbs l=1:=by
  have:Nat.gcd (x.num*(l:Int)+y.num*(r:Int)).natAbs l=1:=by
   rw [tP,Int.natAbs_mul,Int.natAbs_natCast]
   exact Nat.Coprime.mul_left hyl hlr.symm
  rw [a.hN];exact this
 exact Nat.Coprime.mul_right h1 h2
theorem AddS.res {x y:Rat}{r:Nat}{N:Int}(a:AddS x y d l r N s):(x+y).num=N.tdiv (s:Int)∧(x+y).den=r*(y.den/s):=by
 have hd0:0<d:=by rw [a.hd];exact Nat.gcd_pos_of_pos_left _ x.den_pos
 have hs0:0<s:=by rw [a.hs];exact Nat.gcd_pos_of_pos_right _ hd0
 have hc:=a.cop
 have h1:=w8 x y
 have h2:=uo x y
 have e1:x.num*(y.den:Int)+y.num*(x.den:Int)=(d:Int)*N:=by
  rw [a.hl,a.hr,a.hN];simp only [Int.natCast_mul];grind
 have e2:x.den*y.den=d*(r*l*d):=by rw [a.hl,a.hr];grind
 have e3:Nat.gcd ((d:Int)*N).natAbs (d*(r*l*d))=d*s:=by
  rw [Int.natAbs_mul,Int.natAbs_natCast,Nat.gcd_mul_left,Nat.Coprime.gcd_mul_left_cancel_right d (Nat.Coprime.symm hc),←a.hs]
 rw [e1,e2,e3] at h1
 rw [e1,e2,e3] at h2
 have hsN:(s:Int)∣N:=by
  have:s∣N.natAbs:=by rw [a.hs];exact Nat.gcd_dvd_left _ _
  exact Int.ofNat_dvd_left.2 this
 have hsd:s∣d:=by rw [a.hs];exact Nat.gcd_dvd_right _ _
 refine ⟨?_,?_⟩
 ·rw [h1,Int.natCast_mul,Int.mul_ediv_mul_of_pos _ _ zo,Int.tdiv_eq_ediv_of_dvd hsN]
 rw [h2,Nat.mul_div_mul_left _ _ hd0]
 obtain ⟨e,he⟩:=hsd
 rw [a.hl,he]
 rw [show r*l*(s*e)=s*(r*(l*e)) from by grind,Nat.mul_div_cancel_left _ hs0,show s*e*l=s*(l*e) from by grind,Nat.mul_div_cancel_left _ hs0]
theorem oP (a b:Nat):(a:Int).tdiv (b:Int)=((a/b:Nat):Int):=rfl
theorem AddS.mk' {x y:Rat}(hx:¬denZ x=0)(hy:¬denZ y=0):∃d l r N s,AddS x y d l r N s∧((Nat.gcd (denZ x).natAbs (denZ y).natAbs:Nat):Int)=d∧(denZ y).tdiv ((Nat.gcd (denZ x).natAbs (denZ y).natAbs:Nat):Int)=l∧(denZ x).tdiv ((Nat.gcd (denZ x).natAbs (denZ y).natAbs:Nat):Int)=r∧x.num*((denZ y).tdiv ((Nat.gcd (denZ x).natAbs (denZ y).natAbs:Nat):Int))+y.num*((denZ x).tdiv ((Nat.gcd (denZ x).natAbs (denZ y).natAbs:Nat):Int))=N∧∀M:Int,M=N→((Nat.gcd M.natAbs (((Nat.gcd (denZ x).natAbs (denZ y).natAbs:Nat):Int)).natAbs:Nat):Int)=(s:Nat):=by
 rw [vF hx,vF hy]
 simp only [Int.natAbs_natCast,oP]
 have hd0:0<Nat.gcd x.den y.den:=Nat.gcd_pos_of_pos_left _ x.den_pos
 refine ⟨Nat.gcd x.den y.den,y.den/Nat.gcd x.den y.den,x.den/Nat.gcd x.den y.den,_,Nat.gcd (x.num*((y.den/Nat.gcd x.den y.den:Nat):Int)+y.num*((x.den/Nat.gcd x.den y.den:Nat):Int)).natAbs (Nat.gcd x.den y.den),⟨rfl,?_,?_,rfl,rfl⟩,rfl,rfl,rfl,rfl,?_⟩
 ·rw [Nat.mul_div_cancel' (Nat.gcd_dvd_right _ _)]
 ·rw [Nat.mul_div_cancel' (Nat.gcd_dvd_left _ _)]
 intro M hM;rw [hM]
theorem zev (x y:Rat):(x*y).num=(x.num/((Nat.gcd x.num.natAbs y.den:Nat):Int))*(y.num/((Nat.gcd y.num.natAbs x.den:Nat):Int))∧(x*y).den=(x.den/Nat.gcd y.num.natAbs x.den)*(y.den/Nat.gcd x.num.natAbs y.den):=by
 have h1:=tI x y
 have h2:=tJ x y
 have hg:Nat.gcd (x.num*y.num).natAbs (x.den*y.den)=Nat.gcd x.num.natAbs y.den*Nat.gcd y.num.natAbs x.den:=by
  rw [Int.natAbs_mul]
  by_cases hx:x.num=0
  ·have hxd:x.den=1:=by have:=x.reduced;rw [hx] at this;simpa using this
   rw [hx,hxd];simp
  by_cases hy:y.num=0
  ·have hyd:y.den=1:=by have:=y.reduced;rw [hy] at this;simpa using this
   rw [hy,hyd];simp
  have p1:0<Nat.gcd x.num.natAbs y.den:=Nat.gcd_pos_of_pos_right _ y.den_pos
  have p2:0<Nat.gcd y.num.natAbs x.den:=Nat.gcd_pos_of_pos_right _ x.den_pos
  have c1:=Nat.coprime_div_gcd_div_gcd p1
  have c2:=Nat.coprime_div_gcd_div_gcd p2
  have q1:=Nat.mul_div_cancel' (Nat.gcd_dvd_left x.num.natAbs y.den)
  have q2:=Nat.mul_div_cancel' (Nat.gcd_dvd_right x.num.natAbs y.den)
  have q3:=Nat.mul_div_cancel' (Nat.gcd_dvd_left y.num.natAbs x.den)
  have q4:=Nat.mul_div_cancel' (Nat.gcd_dvd_right y.num.natAbs x.den)
  have hx1:=x.reduced
  have hy1:=y.reduced
  generalize Nat.gcd x.num.natAbs y.den=g1 at*
  generalize Nat.gcd y.num.natAbs x.den=g2 at*
  generalize x.num.natAbs/g1=a at*
  generalize y.den/g1=b at*
  generalize y.num.natAbs/g2=c at*
  generalize x.den/g2=e at*
  rw [←q1,←q2,←q3,←q4]
  rw [←q1,←q4] at hx1
  rw [←q3,←q2] at hy1
  have cae:Nat.Coprime a e:=Nat.Coprime.coprime_dvd_left ⟨g1,Nat.mul_comm _ _⟩ (Nat.Coprime.coprime_dvd_right ⟨g2,Nat.mul_comm _ _⟩ hx1)
  have ccb:Nat.Coprime c b:=Nat.Coprime.coprime_dvd_left ⟨g2,Nat.mul_comm _ _⟩ (Nat.Coprime.coprime_dvd_right ⟨g1,Nat.mul_comm _ _⟩ hy1)
  have:Nat.Coprime (a*c) (e*b):=Nat.Coprime.mul_left (Nat.Coprime.mul_right cae c1) (Nat.Coprime.mul_right c2 ccb)
  rw [show g1*a*(g2*c)=(g1*g2)*(a*c) from by grind,show g2*e*(g1*b)=(g1*g2)*(e*b) from by grind,Nat.gcd_mul_left,this,Nat.mul_one]
 rw [hg] at h1 h2
 have d1:((Nat.gcd x.num.natAbs y.den:Nat):Int)∣x.num:=Int.ofNat_dvd_left.2 (Nat.gcd_dvd_left _ _)
 have d2:((Nat.gcd y.num.natAbs x.den:Nat):Int)∣y.num:=Int.ofNat_dvd_left.2 (Nat.gcd_dvd_left _ _)
 have d3:Nat.gcd y.num.natAbs x.den∣x.den:=Nat.gcd_dvd_right _ _
 have d4:Nat.gcd x.num.natAbs y.den∣y.den:=Nat.gcd_dvd_right _ _
 refine ⟨?_,?_⟩
 ·rw [h1,Int.natCast_mul]
  obtain ⟨u,hu⟩:=d1
  obtain ⟨v,hv⟩:=d2
  have p1:0<Nat.gcd x.num.natAbs y.den:=Nat.gcd_pos_of_pos_right _ y.den_pos
  have p2:0<Nat.gcd y.num.natAbs x.den:=Nat.gcd_pos_of_pos_right _ x.den_pos
  generalize Nat.gcd x.num.natAbs y.den=g1 at*
  generalize Nat.gcd y.num.natAbs x.den=g2 at*
  rw [hu,hv,Int.mul_ediv_cancel_left _ zo,Int.mul_ediv_cancel_left _ zo,show (g1:Int)*u*(g2*v)=(g1*g2)*(u*v) from by grind,Int.mul_ediv_cancel_left]
  exact Int.mul_ne_zero zo zo
 rw [h2]
 obtain ⟨u,hu⟩:=d3
 obtain ⟨v,hv⟩:=d4
 have p1:0<Nat.gcd x.num.natAbs y.den:=Nat.gcd_pos_of_pos_right _ y.den_pos
 have p2:0<Nat.gcd y.num.natAbs x.den:=Nat.gcd_pos_of_pos_right _ x.den_pos
 generalize Nat.gcd x.num.natAbs y.den=g1 at*
 generalize Nat.gcd y.num.natAbs x.den=g2 at*
 rw [hu,hv,Nat.mul_div_cancel_left _ p2,Nat.mul_div_cancel_left _ p1,show g2*u*(g1*v)=(g1*g2)*(u*v) from by grind,Nat.mul_div_cancel_left _ (Nat.mul_pos p1 p2)]
theorem nG (x y:Rat):(x<y↔x.num*y.den<y.num*x.den)∧(x=y↔x.num*y.den=y.num*x.den)∧(y<x↔y.num*x.den<x.num*y.den):=by
 refine ⟨Rat.lt_iff ..,?_,Rat.lt_iff ..⟩
 constructor
 ·rintro rfl;rfl
 intro h
 have h1:¬x<y:=by rw [Rat.lt_iff];omega
 have h2:¬y<x:=by rw [Rat.lt_iff];omega
 exact Rat.le_antisymm (Rat.not_lt.1 h2) (Rat.not_lt.1 h1)
end
section
variable {a b cx cy fx fy g gx gy lx ly m m' n:Nat}{q:Rat}{h:HF}{bx dx dy sx sy:Bool}{ax ay ex ey:Option Addr}
theorem uM {x y:Int}(h:x.natAbs<m):(x.tdiv y).natAbs<m:=by
 rw [Int.natAbs_tdiv]
 exact Nat.lt_of_le_of_lt (Nat.div_le_self _ _) h
theorem tL {x y:Int}(hx:x.natAbs<2^a)(hy:y.natAbs<2^b):(x*y).natAbs<2^(a+b):=by
 rw [Int.natAbs_mul,Nat.pow_add]
 exact Nat.mul_lt_mul'' hx hy
theorem dX {x y:Int}(hx:x.natAbs<2^a)(hy:y.natAbs<2^b)(h:a+b≤2496):(x*y).natAbs<BW:=xa (tL hx hy) h
theorem jp {x y:Int}(hx:x.natAbs<2^m)(hy:y.natAbs<2^m):(x+y).natAbs<2^(m+1):=by
 rw [Nat.pow_succ]
 omega
theorem em {x y u v:Int}(hx:x.natAbs<2^a)(hy:y.natAbs<2^b)(hu:u.natAbs<2^b)(hv:v.natAbs<2^a)(h:a+b+1≤2496):(x*y+u*v).natAbs<BW:=
 xa (jp (tL hx hy) (by rw [Nat.add_comm a b];exact tL hu hv)) h
theorem zd1 {x y u:Int}(hx:x.natAbs<2^a)(hy:y.natAbs<2^b)(hu:u.natAbs<2^b)(h:a+b+1≤2496):(x*y+u).natAbs<BW:=
 xa (jp (tL hx hy) (Nat.lt_of_lt_of_le hu (Nat.pow_le_pow_right zd zo))) h
theorem zc8 {x y:Int}(hx:x.natAbs<m)(h0:¬x=0):((Nat.gcd x.natAbs y.natAbs:Nat):Int).natAbs<m:=by
 rw [Int.natAbs_natCast]
 exact Nat.lt_of_le_of_lt (Nat.gcd_le_left _ zo) hx
theorem zfb {x y:Int}(hy:y.natAbs<m)(h0:¬y=0):((Nat.gcd x.natAbs y.natAbs:Nat):Int).natAbs<m:=by
 rw [Int.natAbs_natCast]
 exact Nat.lt_of_le_of_lt (Nat.gcd_le_right _ zo) hy
theorem zg6 {x y:Int}(h:¬x=0):((Nat.gcd x.natAbs y.natAbs:Nat):Int)≠0:=by
 have:=Nat.gcd_pos_of_pos_left (n:=y.natAbs) (m:=x.natAbs) zo
 omega
theorem zfa {x y:Int}(h:¬y=0):((Nat.gcd x.natAbs y.natAbs:Nat):Int)≠0:=by
 have:=Nat.gcd_pos_of_pos_right (m:=x.natAbs) (n:=y.natAbs) zo
 omega
theorem zg0:(1:Int).natAbs<BW:=xa (e:=1) zd zd
theorem szB {x:Int}(h:x.natAbs<BW:=by first|assumption|exact uM ‹_› |exact dX ‹_› ‹_› zo|exact dX ‹_› (uM ‹_›) zo|exact dX (uM ‹_›) (uM ‹_›) zo|exact em ‹_› (uM ‹_›) ‹_› (uM ‹_›) zo|exact em ‹_› ‹_› ‹_› ‹_› zo|exact zd1 ‹_› ‹_› ‹_› zo|exact zc8 ‹_› ‹_› |exact zc8 (em ‹_› (uM ‹_›) ‹_› (uM ‹_›) zo) ‹_› |exact zfb ‹_› ‹_› |exact zg0):x.natAbs<BW:=h
theorem szN {x:Int}(h:x≠0:=by first|assumption|exact zg6 ‹_› |exact zfa ‹_› |omega):x≠0:=h
def Sz (m:Nat)(q:Rat):Prop:=q.num.natAbs<2^m∧q.den<2^m
theorem Sz.z (h:Sz m q):(denZ q).natAbs<2^m:=by
 unfold denZ
 split
 ·exact Nat.two_pow_pos m
 rw [Int.natAbs_natCast];exact h.2
theorem Sz.mono (h:Sz m q)(hm:m≤m'):Sz m' q:=⟨Nat.lt_of_lt_of_le h.1 (Nat.pow_le_pow_right zd hm),Nat.lt_of_lt_of_le h.2 (Nat.pow_le_pow_right zd hm)⟩
theorem pf {x:Int}(h:x.natAbs<m):(x/(g:Int)).natAbs<m:=by
 refine Nat.lt_of_le_of_lt ?_ h
 exact Int.natAbs_ediv_le_natAbs _ _
theorem Sz.add {x y:Rat}(hx:Sz a x)(hy:Sz b y):Sz (a+b+1) (x+y):=by
 refine ⟨?_,?_⟩
 ·rw [w8]
  refine pf (jp (tL hx.1 (by rw [Int.natAbs_natCast];exact hy.2)) ?_)
  rw [Nat.add_comm a b]
  exact tL hy.1 (by rw [Int.natAbs_natCast];exact hx.2)
 rw [uo]
 refine Nat.lt_of_le_of_lt (Nat.div_le_self _ _) (Nat.lt_of_lt_of_le (Nat.mul_lt_mul'' hx.2 hy.2) ?_)
 rw [←Nat.pow_add]
 exact Nat.pow_le_pow_right zd zo
theorem Sz.mul {x y:Rat}(hx:Sz a x)(hy:Sz b y):Sz (a+b) (x*y):=by
 refine ⟨?_,?_⟩
 ·rw [tI]
  exact pf (tL hx.1 hy.1)
 rw [tJ]
 refine Nat.lt_of_le_of_lt (Nat.div_le_self _ _) ?_
 rw [Nat.pow_add]
 exact Nat.mul_lt_mul'' hx.2 hy.2
theorem Sz.neg {x:Rat}(hx:Sz a x):Sz a (-x):=⟨by rw [Rat.neg_num,Int.natAbs_neg];exact hx.1,by rw [Rat.neg_den];exact hx.2⟩
theorem Sz.zero (a:Nat)(h:1≤a):Sz a 0:=⟨Nat.two_pow_pos a,Nat.lt_of_lt_of_le (by decide:(1:Nat)<2^1) (Nat.pow_le_pow_right zd h)⟩
def QV (q:Rat)(v:Value)(h:HF)(n:Nat):Prop:=∃b a l c d e f g,v=.agg #[.bool b,.slice a l c,.bool d,.slice e f g]∧IW h n b a l c q.num∧IW h n d e f g (denZ q)
theorem QV.zero (h:HF)(n:Nat):QV 0 (.agg #[.bool false,.slice none 0 0,.bool false,.slice none 0 0]) h n:=⟨_,_,_,_,_,_,_,_,rfl,IW.zero h n,IW.zero h n⟩
theorem sU (k:Nat){x:Int}{b_y:Bool}{y:Int}(ix:IW h n bx ax lx cx x)(iy:IW h n b_y ay ly cy y)(hx:x.natAbs<BW)(hy:y.natAbs<BW):CX (cal (k+4)) 100 [.agg #[.bool bx,.slice ax lx cx],.agg #[.bool b_y,.slice ay ly cy]] h n fun v _ _=>∃s:Int,v=.int .i64 s∧(s= -1∧x<y∨s=0∧x=y∨s=1∧y<x):=(bO k ix iy hx hy).cx
theorem zc9 (k:Nat){x:Int}{b_y:Bool}{y:Int}(ix:IW h n bx ax lx cx x)(iy:IW h n b_y ay ly cy y)(hx:x.natAbs<BW)(hy:y.natAbs<BW):CX (cal (k+4)) 149 [.agg #[.bool bx,.slice ax lx cx],.agg #[.bool b_y,.slice ay ly cy]] h n (BV (x=y)):=(zfc k ix iy hx hy).cx
theorem zg9 (k:Nat)(h:HF)(n:Nat):CX (cal (k+1)) 142 [.int .u64 1] h n (WV 1):=zg8 k h n (w:=1) zd
theorem zie (k:Nat)(h:HF)(n:Nat):CX (cal (k+2)) 101 [.int .i64 1] h n (IV 1):=by
 refine zr (fn:=Tryz.f101) R4 ?_
 refine zG ?_
 refine sA ?_
 intro h11 p11 x11
 refine zG ?_
 refine wY R6 (ik:=.u64) (a:=1) rfl ?_
 refine sC (zg9 _ _ _) ?_
 rintro _ h12 n12 ⟨a12,l12,c12,rfl,i12⟩ y12 x12
 refine sT #[.bool false,.slice a12 l12 c12] ?_
 refine sS [.bool false,.slice a12 l12 c12] ?_
 intro h13 p13 o13
 refine zq ?_
 exact ⟨_,_,_,_,rfl,rfl,(i12.t zt)⟩
theorem zbg (k:Nat){x:Rat}(ix:IW h n sx ax lx cx x.num)(jx:IW h n dx ex fx gx (denZ x)):VF (cal (k+2)) 62 [.agg #[.bool sx,.slice ax lx cx,.bool dx,.slice ex fx gx]] h n fun v=>∃b:Bool,v=.bool b∧(b=true↔x=0):=by
 refine zA (fn:=Tryz.f62) R4 ?_
 refine zG ?_
 refine sB [.bool sx,.slice ax lx cx,.bool dx,.slice ex fx gx] ?_
 intro h11 p11 x11
 refine zG ?_
 refine sC (wa _ (ix.t zt)) ?_
 rintro _ h12 n12 ⟨b12,rfl,bq12⟩ y12 x12
 rcases bvs bq12 with ⟨rfl,q12⟩|⟨rfl,q12⟩
 ·refine zf ?_
  exact zno fun hq=>absurd (Rat.num_eq_zero.2 hq) q12
 refine zf ?_
 exact zye (Rat.num_eq_zero.1 q12)
theorem zgl (k:Nat){x:Rat}(ix:IW h n sx ax lx cx x.num)(jx:IW h n dx ex fx gx (denZ x)):VF (cal (k+2)) 82 [.agg #[.bool sx,.slice ax lx cx,.bool dx,.slice ex fx gx]] h n fun v=>∃s:Int,v=.int .i64 s∧(s= -1∧x.num<0∨s=0∧x.num=0∨s=1∧0<x.num):=by
 refine zA (fn:=Tryz.f82) R4 ?_
 refine zG ?_
 refine sB [.bool sx,.slice ax lx cx,.bool dx,.slice ex fx gx] ?_
 intro h11 p11 x11
 refine zG ?_
 refine sC (zh6 _ (ix.t zt)) ?_
 rintro _ h12 n12 ⟨s12,rfl,q12⟩ y12 x12
 rcases q12 with ⟨rfl,q12⟩|⟨rfl,q12⟩|⟨rfl,q12⟩
 ·refine zf ?_
  exact ⟨_,rfl,zo⟩
 ·refine zf ?_
  exact ⟨_,rfl,zo⟩
 refine zf ?_
 exact ⟨_,rfl,zo⟩
theorem kE (k:Nat){x:Rat}(ix:IW h n sx ax lx cx x.num)(jx:IW h n dx ex fx gx (denZ x)):CX (cal (k+2)) 62 [.agg #[.bool sx,.slice ax lx cx,.bool dx,.slice ex fx gx]] h n (BV (x=0)):=(zbg k ix jx).cx
theorem sf (k:Nat){x:Rat}(ix:IW h n sx ax lx cx x.num)(jx:IW h n dx ex fx gx (denZ x)):CX (cal (k+2)) 82 [.agg #[.bool sx,.slice ax lx cx,.bool dx,.slice ex fx gx]] h n (SV3 x.num):=(zgl k ix jx).cx
theorem denQ (k:Nat){x:Rat}(ix:IW h n sx ax lx cx x.num)(jx:IW h n dx ex fx gx (denZ x)):CX (cal (k+3)) 98 [.agg #[.bool sx,.slice ax lx cx,.bool dx,.slice ex fx gx]] h n (IV (x.den:Int)):=by
 refine zr (fn:=Tryz.f98) R4 ?_
 refine zG ?_
 refine sB [.bool sx,.slice ax lx cx,.bool dx,.slice ex fx gx] ?_
 intro h11 p11 x11
 refine sA ?_
 intro h12 p12 x12
 refine zG ?_
 refine sC (wa _ (jx.t zt)) ?_
 rintro _ h13 n13 ⟨b13,rfl,bq13⟩ y13 x13
 rcases bvs bq13 with ⟨rfl,q13⟩|⟨rfl,q13⟩
 ·refine zG ?_
  refine sS [.bool dx,.slice ex fx gx] ?_
  intro h14 p14 o14
  refine zq ?_
  exact ⟨_,_,_,_,rfl,(jx.t zt).as (vF q13)⟩
 refine zG ?_
 refine sC (zie _ _ _) ?_
 rintro _ h15 n15 ⟨b15,a15,l15,c15,rfl,i15⟩ y15 x15
 refine sS [.bool b15,.slice a15 l15 c15] ?_
 intro h16 p16 o16
 refine zq ?_
 exact ⟨_,_,_,_,rfl,(i15.t zt).as (by rw [yZ.1 q13];rfl)⟩
theorem nc (k:Nat){x:Int}{y:Int}(ix:IW h n sx ax lx cx x)(iy:IW h n sy ay ly cy y)(hN:q.num=x)(hD:(q.den:Int)=y):CX (cal (k+2)) 96 [.agg #[.bool sx,.slice ax lx cx],.agg #[.bool sy,.slice ay ly cy]] h n (QV q):=by
 refine zr (fn:=Tryz.f96) R4 ?_
 refine zG ?_
 refine sB [.bool sx,.slice ax lx cx] ?_
 intro h11 p11 x11
 refine sB [.bool sy,.slice ay ly cy] ?_
 intro h12 p12 x12
 refine sA ?_
 intro h13 p13 x13
 refine zG ?_
 refine sC (ou _ (iy.t zt)) ?_
 rintro _ h14 n14 ⟨b14,rfl,bq14⟩ y14 x14
 rcases bvs bq14 with ⟨rfl,q14⟩|⟨rfl,q14⟩
 ·refine zG ?_
  refine sT #[.bool sx,.slice ax lx cx,.bool sy,.slice ay ly cy] ?_
  refine sS [.bool sx,.slice ax lx cx,.bool sy,.slice ay ly cy] ?_
  intro h15 p15 o15
  refine zq ?_
  exact ⟨_,_,_,_,_,_,_,_,rfl,(ix.t zt).as (hN.symm),(iy.t zt).as (((vF (mt yZ.1 (by have:=hD;omega))).trans hD).symm)⟩
 refine zG ?_
 refine sT #[.bool sx,.slice ax lx cx,.bool false,.slice none 0 0] ?_
 refine sS [.bool sx,.slice ax lx cx,.bool false,.slice none 0 0] ?_
 intro h16 p16 o16
 refine zq ?_
 exact ⟨_,_,_,_,_,_,_,_,rfl,(ix.t zt).as (hN.symm),(IW.zero _ _).as ((yZ.2 (by have:=hD;omega)).symm)⟩
theorem nH (k:Nat){x:Int}{y:Int}(g:GG h n)(ix:IW h n sx ax lx cx x)(iy:IW h n sy ay ly cy y)(hx:x.natAbs<BW)(hy:y.natAbs<BW)(hy0:¬y=0):CX (cal (k+9)) 97 [.agg #[.bool sx,.slice ax lx cx],.agg #[.bool sy,.slice ay ly cy]] h n fun v h' n'=>∃b a l c g d e f,v=.tuple #[.agg #[.bool b,.slice a l c],.agg #[.bool g,.slice d e f]]∧IW h' n' b a l c (x.tdiv ((Nat.gcd x.natAbs y.natAbs:Nat):Int))∧IW h' n' g d e f (y.tdiv ((Nat.gcd x.natAbs y.natAbs:Nat):Int)):=by
 refine zr (fn:=Tryz.f97) R4 ?_
 refine zG ?_
 refine sB [.bool sx,.slice ax lx cx] ?_
 intro h11 p11 x11
 refine sB [.bool sy,.slice ay ly cy] ?_
 intro h12 p12 x12
 refine sA ?_
 intro h13 p13 x13
 refine sA ?_
 intro h14 p14 x14
 refine zG ?_
 refine sC (ou _ (iy.t zt)) ?_
 rintro _ h15 n15 ⟨b15,rfl,bq15⟩ y15 x15
 rcases bvs bq15 with ⟨rfl,q15⟩|⟨rfl,q15⟩
 ·refine zG ?_
  refine sC (gcdX _ (g.t zt) (ix.t zt) (iy.t zt) szB szB) ?_
  rintro _ h16 n16 ⟨b16,a16,l16,c16,rfl,i16⟩ y16 x16
  refine sA ?_
  intro h17 p17 x17
  refine sS [.bool b16,.slice a16 l16 c16] ?_
  intro h18 p18 o18
  refine zG ?_
  refine zj [0,0,3,0,0,31,63,127] rfl ?_
  refine zH ?_
  refine dC (quoX _ (ix.t zt) (i16.t zt) szB szB szN) ?_
  rintro _ h19 n19 ⟨b19,a19,l19,c19,rfl,i19⟩ y19 x19
  refine zH ?_
  refine dC (quoX _ (iy.t zt) (i16.t zt) szB szB szN) ?_
  rintro _ h20 n20 ⟨b20,a20,l20,c20,rfl,i20⟩ y20 x20
  refine dS [.bool b19,.slice a19 l19 c19] ?_
  intro h21 p21 o21
  refine dS [.bool b20,.slice a20 l20 c20] ?_
  intro h22 p22 o22
  refine zq ?_
  exact ⟨_,_,_,_,_,_,_,_,rfl,(i19.t zt),(i20.t zt)⟩
 refine zG ?_
 refine zj [0,0,1,7] rfl ?_
 refine zH ?_
 refine dS [.bool sx,.slice ax lx cx] ?_
 intro h23 p23 o23
 refine dS [.bool sy,.slice ay ly cy] ?_
 intro h24 p24 o24
 refine zq ?_
 exact ⟨_,_,_,_,_,_,_,_,rfl,(ix.t zt).as (by rw [q15];simp),(iy.t zt).as (by rw [q15];simp)⟩
theorem aP {x y:Rat}(hx:¬denZ x=0)(hy:¬denZ y=0)(h:x.num*((denZ y).tdiv ((Nat.gcd (denZ x).natAbs (denZ y).natAbs:Nat):Int))+y.num*((denZ x).tdiv ((Nat.gcd (denZ x).natAbs (denZ y).natAbs:Nat):Int))=0):x+y=0:=by
 obtain ⟨d,l,r,N,s,a,e1,e2,e3,e4,e5⟩:=AddS.mk' hx hy
 rw [e4] at h
 rw [←Rat.num_eq_zero,a.res.1,h,Int.zero_tdiv]
theorem nM {x y:Rat}(hx:¬denZ x=0)(hy:¬denZ y=0):(x+y).num=(x.num*((denZ y).tdiv ((Nat.gcd (denZ x).natAbs (denZ y).natAbs:Nat):Int))+y.num*((denZ x).tdiv ((Nat.gcd (denZ x).natAbs (denZ y).natAbs:Nat):Int))).tdiv ((Nat.gcd (x.num*((denZ y).tdiv ((Nat.gcd (denZ x).natAbs (denZ y).natAbs:Nat):Int))+y.num*((denZ x).tdiv ((Nat.gcd (denZ x).natAbs (denZ y).natAbs:Nat):Int))).natAbs (((Nat.gcd (denZ x).natAbs (denZ y).natAbs:Nat):Int)).natAbs:Nat):Int)∧((x+y).den:Int)=((denZ x).tdiv ((Nat.gcd (denZ x).natAbs (denZ y).natAbs:Nat):Int))*((denZ y).tdiv ((Nat.gcd (x.num*((denZ y).tdiv ((Nat.gcd (denZ x).natAbs (denZ y).natAbs:Nat):Int))+y.num*((denZ x).tdiv ((Nat.gcd (denZ x).natAbs (denZ y).natAbs:Nat):Int))).natAbs (((Nat.gcd (denZ x).natAbs (denZ y).natAbs:Nat):Int)).natAbs:Nat):Int)):=by
 obtain ⟨d,l,r,N,s,a,e1,e2,e3,e4,e5⟩:=AddS.mk' hx hy
 rw [e4,e5 N rfl,e3]
 refine ⟨a.res.1,?_⟩
 rw [a.res.2,Int.natCast_mul,vF hy,oP]
theorem iZ {x y:Rat}(hx:¬denZ x=0)(hy:¬denZ y=0)(h:((Nat.gcd (denZ x).natAbs (denZ y).natAbs:Nat):Int)=1):(x+y).num=x.num*((denZ y).tdiv ((Nat.gcd (denZ x).natAbs (denZ y).natAbs:Nat):Int))+y.num*((denZ x).tdiv ((Nat.gcd (denZ x).natAbs (denZ y).natAbs:Nat):Int))∧((x+y).den:Int)=denZ x*denZ y:=by
 have h4:=nM hx hy
 rw [h] at h4 ⊢
 have e:(1:Int).natAbs=1:=rfl
 rw [e,Nat.gcd_one_right,show ((1:Nat):Int)=1 from rfl,Int.tdiv_one,Int.tdiv_one,Int.tdiv_one] at h4
 rw [Int.tdiv_one,Int.tdiv_one]
 exact h4
theorem addQ (k:Nat){x:Rat}{y:Rat}(g:GG h n)(ix:IW h n sx ax lx cx x.num)(jx:IW h n dx ex fx gx (denZ x))(iy:IW h n sy ay ly cy y.num)(jy:IW h n dy ey fy gy (denZ y))(hx:Sz a x)(hy:Sz b y)(hab:a+b+1≤2496):CX (cal (k+9)) 48 [.agg #[.bool sx,.slice ax lx cx,.bool dx,.slice ex fx gx],.agg #[.bool sy,.slice ay ly cy,.bool dy,.slice ey fy gy]] h n (QV (x+y)):=by
 obtain ⟨hxn,hxd⟩:x.num.natAbs<2^a∧(denZ x).natAbs<2^a:=⟨hx.1,hx.z⟩
 obtain ⟨hyn,hyd⟩:y.num.natAbs<2^b∧(denZ y).natAbs<2^b:=⟨hy.1,hy.z⟩
 have hxn1:=xa hxn zo
 have hxd1:=xa hxd zo
 have hyn1:=xa hyn zo
 have hyd1:=xa hyd zo
 refine zr (fn:=Tryz.f48) R4 ?_
 refine zG ?_
 refine sB [.bool sx,.slice ax lx cx,.bool dx,.slice ex fx gx] ?_
 intro h11 p11 x11
 refine sB [.bool sy,.slice ay ly cy,.bool dy,.slice ey fy gy] ?_
 intro h12 p12 x12
 refine sA ?_
 intro h13 p13 x13
 refine zG ?_
 refine sC (wa _ (jx.t zt)) ?_
 rintro _ h14 n14 ⟨b14,rfl,bq14⟩ y14 x14
 rcases bvs bq14 with ⟨rfl,q14⟩|⟨rfl,q14⟩
 ·refine zG ?_
  refine sC (wa _ (jx.t zt)) ?_
  rintro _ h15 n15 ⟨b15,rfl,bq15⟩ y15 x15
  rcases bvs bq15 with ⟨rfl,q15⟩|⟨rfl,q15⟩
  ·refine zG ?_
   refine sC (wa _ (jy.t zt)) ?_
   rintro _ h16 n16 ⟨b16,rfl,bq16⟩ y16 x16
   rcases bvs bq16 with ⟨rfl,q16⟩|⟨rfl,q16⟩
   ·refine zG ?_
    refine sC (gcdX _ (g.t zt) (jx.t zt) (jy.t zt) szB szB) ?_
    rintro _ h17 n17 ⟨b17,a17,l17,c17,rfl,i17⟩ y17 x17
    refine sA ?_
    intro h18 p18 x18
    refine sS [.bool b17,.slice a17 l17 c17] ?_
    intro h19 p19 o19
    refine zG ?_
    refine zj [0,1,0,7,0,16,0,127,0,0,1023,2047] rfl ?_
    refine zH ?_
    refine dC (quoX _ (jy.t zt) (i17.t zt) szB szB szN) ?_
    rintro _ h20 n20 ⟨b20,a20,l20,c20,rfl,i20⟩ y20 x20
    refine zH ?_
    refine dC (quoX _ (jx.t zt) (i17.t zt) szB szB szN) ?_
    rintro _ h21 n21 ⟨b21,a21,l21,c21,rfl,i21⟩ y21 x21
    refine dB [.bool false,.slice none 0 0] ?_
    intro h22 p22 x22
    refine dB [.bool false,.slice none 0 0] ?_
    intro h23 p23 x23
    refine dS [.bool b20,.slice a20 l20 c20] ?_
    intro h24 p24 o24
    refine dS [.bool b21,.slice a21 l21 c21] ?_
    intro h25 p25 o25
    refine zG ?_
    refine zj [0,1,0,7,0,16,0,127,255,0,1023] rfl ?_
    refine zH ?_
    refine dC (mulX _ (ix.t zt) (i20.t zt) szB szB) ?_
    rintro _ h26 n26 ⟨b26,a26,l26,c26,rfl,i26⟩ y26 x26
    refine zH ?_
    refine dC (mulX _ (iy.t zt) (i21.t zt) szB szB) ?_
    rintro _ h27 n27 ⟨b27,a27,l27,c27,rfl,i27⟩ y27 x27
    refine dC (addX _ (i26.t zt) i27 szB szB) ?_
    rintro _ h28 n28 ⟨b28,a28,l28,c28,rfl,i28⟩ y28 x28
    refine dB [.bool false,.slice none 0 0] ?_
    intro h29 p29 x29
    refine dS [.bool b28,.slice a28 l28 c28] ?_
    intro h30 p30 o30
    refine zG ?_
    refine sC (wa _ (i28.t zt)) ?_
    rintro _ h31 n31 ⟨b31,rfl,bq31⟩ y31 x31
    rcases bvs bq31 with ⟨rfl,q31⟩|⟨rfl,q31⟩
    ·refine zG ?_
     refine sC (ou _ (i17.t zt)) ?_
     rintro _ h32 n32 ⟨b32,rfl,bq32⟩ y32 x32
     rcases bvs bq32 with ⟨rfl,q32⟩|⟨rfl,q32⟩
     ·refine zG ?_
      refine sC (gcdX _ (g.t zt) (i28.t zt) (i17.t zt) szB szB) ?_
      rintro _ h33 n33 ⟨b33,a33,l33,c33,rfl,i33⟩ y33 x33
      refine sA ?_
      intro h34 p34 x34
      refine sS [.bool b33,.slice a33 l33 c33] ?_
      intro h35 p35 o35
      refine zG ?_
      refine zj [0,0,3,0,0,16,0,119,255,511,1023] rfl ?_
      refine zH ?_
      refine dC (quoX _ (i28.t zt) (i33.t zt) szB szB szN) ?_
      rintro _ h36 n36 ⟨b36,a36,l36,c36,rfl,i36⟩ y36 x36
      refine zH ?_
      refine dC (quoX _ (jy.t zt) (i33.t zt) szB szB szN) ?_
      rintro _ h37 n37 ⟨b37,a37,l37,c37,rfl,i37⟩ y37 x37
      refine dC (mulX _ (i21.t zt) i37 szB szB) ?_
      rintro _ h38 n38 ⟨b38,a38,l38,c38,rfl,i38⟩ y38 x38
      refine dC (nc _ (i36.t zt) i38 (nM q15 q16).1 (nM q15 q16).2) ?_
      rintro _ h39 n39 ⟨b39,a39,l39,c39,d39,e39,f39,g39,rfl,i39,j39⟩ y39 x39
      refine dS [.bool b39,.slice a39 l39 c39,.bool d39,.slice e39 f39 g39] ?_
      intro h40 p40 o40
      refine zq ?_
      exact ⟨_,_,_,_,_,_,_,_,rfl,(i39.t zt),(j39.t zt)⟩
     refine zG ?_
     refine zj [0,0,2,0,8,30,63,127] rfl ?_
     refine zH ?_
     refine dC (mulX _ (jx.t zt) (jy.t zt) szB szB) ?_
     rintro _ h41 n41 ⟨b41,a41,l41,c41,rfl,i41⟩ y41 x41
     refine dC (nc _ (i28.t zt) i41 (iZ q15 q16 q32).1 (iZ q15 q16 q32).2) ?_
     rintro _ h42 n42 ⟨b42,a42,l42,c42,d42,e42,f42,g42,rfl,i42,j42⟩ y42 x42
     refine dS [.bool b42,.slice a42 l42 c42,.bool d42,.slice e42 f42 g42] ?_
     intro h43 p43 o43
     refine zq ?_
     exact ⟨_,_,_,_,_,_,_,_,rfl,(i42.t zt),(j42.t zt)⟩
    refine zG ?_
    refine sT #[.bool false,.slice none 0 0,.bool false,.slice none 0 0] ?_
    refine sS [.bool false,.slice none 0 0,.bool false,.slice none 0 0] ?_
    intro h44 p44 o44
    refine zq ?_
    exact (show x+y=0 from aP (q14) (q16) q31)▸QV.zero _ _
   refine zG ?_
   refine zj [0,1,0,4,15,0,32,127,0,256,1023,2047] rfl ?_
   refine zH ?_
   refine dC (mulX _ (iy.t zt) (jx.t zt) szB szB) ?_
   rintro _ h45 n45 ⟨b45,a45,l45,c45,rfl,i45⟩ y45 x45
   refine zH ?_
   refine dC (addX _ i45 (ix.t zt) szB szB) ?_
   rintro _ h46 n46 ⟨b46,a46,l46,c46,rfl,i46⟩ y46 x46
   refine zH ?_
   refine dT #[.bool b46,.slice a46 l46 c46,.bool dx,.slice ex fx gx] ?_
   refine dS [.bool b46,.slice a46 l46 c46,.bool dx,.slice ex fx gx] ?_
   intro h47 p47 o47
   refine zq ?_
   exact ⟨_,_,_,_,_,_,_,_,rfl,(i46.t zt).as ((zdq q15 q16).1.symm),(jx.t zt).as ((zdq q15 q16).2.symm)⟩
  exact absurd q15 q14
 refine zG ?_
 refine sC (wa _ (jy.t zt)) ?_
 rintro _ h48 n48 ⟨b48,rfl,bq48⟩ y48 x48
 rcases bvs bq48 with ⟨rfl,q48⟩|⟨rfl,q48⟩
 ·refine zG ?_
  refine sC (wa _ (jx.t zt)) ?_
  rintro _ h49 n49 ⟨b49,rfl,bq49⟩ y49 x49
  rcases bvs bq49 with ⟨rfl,q49⟩|⟨rfl,q49⟩
  ·exact absurd q14 q49
  refine zG ?_
  refine zj [0,1,0,4,15,0,32,127,0,256,1023,2047] rfl ?_
  refine zH ?_
  refine dC (mulX _ (ix.t zt) (jy.t zt) szB szB) ?_
  rintro _ h50 n50 ⟨b50,a50,l50,c50,rfl,i50⟩ y50 x50
  refine zH ?_
  refine dC (addX _ i50 (iy.t zt) szB szB) ?_
  rintro _ h51 n51 ⟨b51,a51,l51,c51,rfl,i51⟩ y51 x51
  refine zH ?_
  refine dT #[.bool b51,.slice a51 l51 c51,.bool dy,.slice ey fy gy] ?_
  refine dS [.bool b51,.slice a51 l51 c51,.bool dy,.slice ey fy gy] ?_
  intro h52 p52 o52
  refine zq ?_
  exact ⟨_,_,_,_,_,_,_,_,rfl,(i51.t zt).as ((aQ q14 q48).1.symm),(jy.t zt).as ((aQ q14 q48).2.symm)⟩
 refine zG ?_
 refine sC (addX _ (ix.t zt) (iy.t zt) szB szB) ?_
 rintro _ h53 n53 ⟨b53,a53,l53,c53,rfl,i53⟩ y53 x53
 refine sT #[.bool b53,.slice a53 l53 c53,.bool false,.slice none 0 0] ?_
 refine sS [.bool b53,.slice a53 l53 c53,.bool false,.slice none 0 0] ?_
 intro h54 p54 o54
 refine zq ?_
 exact ⟨_,_,_,_,_,_,_,_,rfl,(i53.t zt).as ((iY q14 q48).1.symm),(IW.zero _ _).as ((iY q14 q48).2.symm)⟩
theorem jP {x y:Rat}(hx:denZ x=0)(hy:denZ y=0):(x*y).num=x.num*y.num∧denZ (x*y)=0:=by
 rw [yZ] at*
 have h1:=tI x y
 have h2:=tJ x y
 rw [hx,hy] at h1 h2
 simp at h1 h2
 exact ⟨h1,h2⟩
theorem o9 (x y:Rat):(x*y).num=(x.num.tdiv ((Nat.gcd x.num.natAbs ((y.den:Int)).natAbs:Nat):Int))*(y.num.tdiv ((Nat.gcd y.num.natAbs ((x.den:Int)).natAbs:Nat):Int))∧((x*y).den:Int)=((x.den:Int).tdiv ((Nat.gcd y.num.natAbs ((x.den:Int)).natAbs:Nat):Int))*((y.den:Int).tdiv ((Nat.gcd x.num.natAbs ((y.den:Int)).natAbs:Nat):Int)):=by
 simp only [Int.natAbs_natCast,oP]
 have h:=zev x y
 rw [Int.tdiv_eq_ediv_of_dvd (Int.ofNat_dvd_left.2 (Nat.gcd_dvd_left _ _)),Int.tdiv_eq_ediv_of_dvd (Int.ofNat_dvd_left.2 (Nat.gcd_dvd_left _ _))]
 refine ⟨h.1,?_⟩
 rw [h.2,Int.natCast_mul]
theorem mulQ (k:Nat){x:Rat}{y:Rat}(g:GG h n)(ix:IW h n sx ax lx cx x.num)(jx:IW h n dx ex fx gx (denZ x))(iy:IW h n sy ay ly cy y.num)(jy:IW h n dy ey fy gy (denZ y))(hx:Sz a x)(hy:Sz b y)(hab:a+b≤2496):CX (cal (k+10)) 49 [.agg #[.bool sx,.slice ax lx cx,.bool dx,.slice ex fx gx],.agg #[.bool sy,.slice ay ly cy,.bool dy,.slice ey fy gy]] h n (QV (x*y)):=by
 obtain ⟨hxn,hxd⟩:x.num.natAbs<2^a∧(denZ x).natAbs<2^a:=⟨hx.1,hx.z⟩
 obtain ⟨hyn,hyd⟩:y.num.natAbs<2^b∧(denZ y).natAbs<2^b:=⟨hy.1,hy.z⟩
 have hxn1:=xa hxn zo
 have hxd1:=xa hxd zo
 have hyn1:=xa hyn zo
 have hyd1:=xa hyd zo
 have hxp:=x.den_pos
 have hyp:=y.den_pos
 have hxe:((x.den:Int)).natAbs<2^a:=hx.2
 have hye:((y.den:Int)).natAbs<2^b:=hy.2
 have hxe1:=xa hxe zo
 have hye1:=xa hye zo
 refine zr (fn:=Tryz.f49) R4 ?_
 refine zG ?_
 refine sB [.bool sx,.slice ax lx cx,.bool dx,.slice ex fx gx] ?_
 intro h11 p11 x11
 refine sB [.bool sy,.slice ay ly cy,.bool dy,.slice ey fy gy] ?_
 intro h12 p12 x12
 refine sA ?_
 intro h13 p13 x13
 refine zG ?_
 refine sC (wa _ (ix.t zt)) ?_
 rintro _ h14 n14 ⟨b14,rfl,bq14⟩ y14 x14
 rcases bvs bq14 with ⟨rfl,q14⟩|⟨rfl,q14⟩
 ·refine zG ?_
  refine sC (wa _ (iy.t zt)) ?_
  rintro _ h15 n15 ⟨b15,rfl,bq15⟩ y15 x15
  rcases bvs bq15 with ⟨rfl,q15⟩|⟨rfl,q15⟩
  ·refine zG ?_
   refine sC (wa _ (jx.t zt)) ?_
   rintro _ h16 n16 ⟨b16,rfl,bq16⟩ y16 x16
   rcases bvs bq16 with ⟨rfl,q16⟩|⟨rfl,q16⟩
   ·refine zG ?_
    refine zj [0,1,0,4,15,31,63,63,0,0,895,2047] rfl ?_
    refine zH ?_
    refine dC (denQ _ (iy.t zt) (jy.t zt)) ?_
    rintro _ h17 n17 ⟨b17,a17,l17,c17,rfl,i17⟩ y17 x17
    refine dC (nH _ (g.t zt) (ix.t zt) i17 szB szB zo) ?_
    rintro _ h18 n18 ⟨b18,a18,l18,c18,g18,d18,e18,f18,rfl,i18,j18⟩ y18 x18
    refine zH ?_
    refine dB [.bool false,.slice none 0 0] ?_
    intro h19 p19 x19
    refine dB [.bool false,.slice none 0 0] ?_
    intro h20 p20 x20
    refine dS [.bool b18,.slice a18 l18 c18] ?_
    intro h21 p21 o21
    refine dS [.bool g18,.slice d18 e18 f18] ?_
    intro h22 p22 o22
    refine zG ?_
    refine zj [0,1,0,4,15,31,63,63,0,0,895,2047] rfl ?_
    refine zH ?_
    refine dC (denQ _ (ix.t zt) (jx.t zt)) ?_
    rintro _ h23 n23 ⟨b23,a23,l23,c23,rfl,i23⟩ y23 x23
    refine dC (nH _ (g.t zt) (iy.t zt) i23 szB szB zo) ?_
    rintro _ h24 n24 ⟨b24,a24,l24,c24,g24,d24,e24,f24,rfl,i24,j24⟩ y24 x24
    refine zH ?_
    refine dB [.bool false,.slice none 0 0] ?_
    intro h25 p25 x25
    refine dB [.bool false,.slice none 0 0] ?_
    intro h26 p26 x26
    refine dS [.bool b24,.slice a24 l24 c24] ?_
    intro h27 p27 o27
    refine dS [.bool g24,.slice d24 e24 f24] ?_
    intro h28 p28 o28
    refine zG ?_
    refine zj [0,0,3,0,0,31,63,127] rfl ?_
    refine zH ?_
    refine dC (mulX _ (i18.t zt) (i24.t zt) szB szB) ?_
    rintro _ h29 n29 ⟨b29,a29,l29,c29,rfl,i29⟩ y29 x29
    refine zH ?_
    refine dC (mulX _ (j24.t zt) (j18.t zt) szB szB) ?_
    rintro _ h30 n30 ⟨b30,a30,l30,c30,rfl,i30⟩ y30 x30
    refine dC (nc _ (i29.t zt) i30 (o9 x y).1 (o9 x y).2) ?_
    rintro _ h31 n31 ⟨b31,a31,l31,c31,d31,e31,f31,g31,rfl,i31,j31⟩ y31 x31
    refine dS [.bool b31,.slice a31 l31 c31,.bool d31,.slice e31 f31 g31] ?_
    intro h32 p32 o32
    refine zq ?_
    exact ⟨_,_,_,_,_,_,_,_,rfl,(i31.t zt),(j31.t zt)⟩
   refine zG ?_
   refine sC (wa _ (jy.t zt)) ?_
   rintro _ h33 n33 ⟨b33,rfl,bq33⟩ y33 x33
   rcases bvs bq33 with ⟨rfl,q33⟩|⟨rfl,q33⟩
   ·refine zG ?_
    refine zj [0,1,0,4,15,31,63,63,0,0,895,2047] rfl ?_
    refine zH ?_
    refine dC (denQ _ (iy.t zt) (jy.t zt)) ?_
    rintro _ h34 n34 ⟨b34,a34,l34,c34,rfl,i34⟩ y34 x34
    refine dC (nH _ (g.t zt) (ix.t zt) i34 szB szB zo) ?_
    rintro _ h35 n35 ⟨b35,a35,l35,c35,g35,d35,e35,f35,rfl,i35,j35⟩ y35 x35
    refine zH ?_
    refine dB [.bool false,.slice none 0 0] ?_
    intro h36 p36 x36
    refine dB [.bool false,.slice none 0 0] ?_
    intro h37 p37 x37
    refine dS [.bool b35,.slice a35 l35 c35] ?_
    intro h38 p38 o38
    refine dS [.bool g35,.slice d35 e35 f35] ?_
    intro h39 p39 o39
    refine zG ?_
    refine zj [0,1,0,4,15,31,63,63,0,0,895,2047] rfl ?_
    refine zH ?_
    refine dC (denQ _ (ix.t zt) (jx.t zt)) ?_
    rintro _ h40 n40 ⟨b40,a40,l40,c40,rfl,i40⟩ y40 x40
    refine dC (nH _ (g.t zt) (iy.t zt) i40 szB szB zo) ?_
    rintro _ h41 n41 ⟨b41,a41,l41,c41,g41,d41,e41,f41,rfl,i41,j41⟩ y41 x41
    refine zH ?_
    refine dB [.bool false,.slice none 0 0] ?_
    intro h42 p42 x42
    refine dB [.bool false,.slice none 0 0] ?_
    intro h43 p43 x43
    refine dS [.bool b41,.slice a41 l41 c41] ?_
    intro h44 p44 o44
    refine dS [.bool g41,.slice d41 e41 f41] ?_
    intro h45 p45 o45
    refine zG ?_
    refine zj [0,0,3,0,0,31,63,127] rfl ?_
    refine zH ?_
    refine dC (mulX _ (i35.t zt) (i41.t zt) szB szB) ?_
    rintro _ h46 n46 ⟨b46,a46,l46,c46,rfl,i46⟩ y46 x46
    refine zH ?_
    refine dC (mulX _ (j41.t zt) (j35.t zt) szB szB) ?_
    rintro _ h47 n47 ⟨b47,a47,l47,c47,rfl,i47⟩ y47 x47
    refine dC (nc _ (i46.t zt) i47 (o9 x y).1 (o9 x y).2) ?_
    rintro _ h48 n48 ⟨b48,a48,l48,c48,d48,e48,f48,g48,rfl,i48,j48⟩ y48 x48
    refine dS [.bool b48,.slice a48 l48 c48,.bool d48,.slice e48 f48 g48] ?_
    intro h49 p49 o49
    refine zq ?_
    exact ⟨_,_,_,_,_,_,_,_,rfl,(i48.t zt),(j48.t zt)⟩
   refine zG ?_
   refine sC (mulX _ (ix.t zt) (iy.t zt) szB szB) ?_
   rintro _ h50 n50 ⟨b50,a50,l50,c50,rfl,i50⟩ y50 x50
   refine sT #[.bool b50,.slice a50 l50 c50,.bool false,.slice none 0 0] ?_
   refine sS [.bool b50,.slice a50 l50 c50,.bool false,.slice none 0 0] ?_
   intro h51 p51 o51
   refine zq ?_
   exact ⟨_,_,_,_,_,_,_,_,rfl,(i50.t zt).as ((jP q16 q33).1.symm),(IW.zero _ _).as ((jP q16 q33).2.symm)⟩
  refine zG ?_
  refine sT #[.bool false,.slice none 0 0,.bool false,.slice none 0 0] ?_
  refine sS [.bool false,.slice none 0 0,.bool false,.slice none 0 0] ?_
  intro h52 p52 o52
  refine zq ?_
  exact (show x*y=0 from by rw [Rat.num_eq_zero.1 q15,Rat.mul_zero])▸QV.zero _ _
 refine zG ?_
 refine sT #[.bool false,.slice none 0 0,.bool false,.slice none 0 0] ?_
 refine sS [.bool false,.slice none 0 0,.bool false,.slice none 0 0] ?_
 intro h53 p53 o53
 refine zq ?_
 exact (show x*y=0 from by rw [Rat.num_eq_zero.1 q14,Rat.zero_mul])▸QV.zero _ _
theorem pq {s:Int}{a b c A B C:Prop}(e:(a→A)∧(b→B)∧(c→C))(q:s= -1∧a∨s=0∧b∨s=1∧c):s= -1∧A∨s=0∧B∨s=1∧C:=by
 rcases q with q|q|q
 ·exact .inl ⟨q.1,e.1 q.2⟩
 ·exact .inr (.inl ⟨q.1,e.2.1 q.2⟩)
 exact .inr (.inr ⟨q.1,e.2.2 q.2⟩)
theorem qr {x y:Rat}:(x.num*(y.den:Int)<y.num*(x.den:Int)→x<y)∧(x.num*(y.den:Int)=y.num*(x.den:Int)→x=y)∧(y.num*(x.den:Int)<x.num*(y.den:Int)→y<x):=⟨(nG x y).1.2,(nG x y).2.1.2,(nG x y).2.2.2⟩
theorem bR {x y:Rat}(hx:denZ x=0)(hy:denZ y=0):(x.num<y.num→x<y)∧(x.num=y.num→x=y)∧(y.num<x.num→y<x):=by
 have:=qr (x:=x) (y:=y)
 rw [yZ.1 hx,yZ.1 hy] at this
 simpa using this
theorem iP {x y:Rat}(h:x.num<0∧0≤y.num∨x.num≤0∧0<y.num∨y.num<0∧0≤x.num∨y.num≤0∧0<x.num):(x.num<y.num→x<y)∧(x.num=y.num→x=y)∧(y.num<x.num→y<x):=by
 have hc:=qr (x:=x) (y:=y)
 have h1:=x.den_pos
 have h2:=y.den_pos
 refine ⟨fun hl=>hc.1 ?_,fun hl=>by omega,fun hl=>hc.2.2 ?_⟩
 ·rcases Int.lt_or_le x.num 0 with hx|hx
  ·have a1:=Int.mul_neg_of_neg_of_pos hx (show (0:Int)<y.den by omega)
   have a2:=Int.mul_nonneg (show 0≤y.num by omega) (show (0:Int)≤x.den by omega)
   omega
  have:x.num=0:=zo
  rw [this,Int.zero_mul]
  exact Int.mul_pos zo zo
 rcases Int.lt_or_le y.num 0 with hx|hx
 ·have a1:=Int.mul_neg_of_neg_of_pos hx (show (0:Int)<x.den by omega)
  have a2:=Int.mul_nonneg (show 0≤x.num by omega) (show (0:Int)≤y.den by omega)
  omega
 have:y.num=0:=zo
 rw [this,Int.zero_mul]
 exact Int.mul_pos zo zo
theorem u4 (k:Nat){x:Rat}{y:Rat}(ix:IW h n sx ax lx cx x.num)(jx:IW h n dx ex fx gx (denZ x))(iy:IW h n sy ay ly cy y.num)(jy:IW h n dy ey fy gy (denZ y))(hx:Sz a x)(hy:Sz b y)(hab:a+b≤2496):VF (cal (k+6)) 51 [.agg #[.bool sx,.slice ax lx cx,.bool dx,.slice ex fx gx],.agg #[.bool sy,.slice ay ly cy,.bool dy,.slice ey fy gy]] h n fun v=>∃s:Int,v=.int .i64 s∧(s= -1∧x<y∨s=0∧x=y∨s=1∧y<x):=by
 obtain ⟨hxn,hxd⟩:x.num.natAbs<2^a∧(denZ x).natAbs<2^a:=⟨hx.1,hx.z⟩
 obtain ⟨hyn,hyd⟩:y.num.natAbs<2^b∧(denZ y).natAbs<2^b:=⟨hy.1,hy.z⟩
 have hxn1:=xa hxn zo
 have hxd1:=xa hxd zo
 have hyn1:=xa hyn zo
 have hyd1:=xa hyd zo
 have hxp:=x.den_pos
 have hyp:=y.den_pos
 have hxe:((x.den:Int)).natAbs<2^a:=hx.2
 have hye:((y.den:Int)).natAbs<2^b:=hy.2
 have hxe1:=xa hxe zo
 have hye1:=xa hye zo
 refine zA (fn:=Tryz.f51) R4 ?_
 refine zG ?_
 refine sB [.bool sx,.slice ax lx cx,.bool dx,.slice ex fx gx] ?_
 intro h11 p11 x11
 refine sB [.bool sy,.slice ay ly cy,.bool dy,.slice ey fy gy] ?_
 intro h12 p12 x12
 refine zG ?_
 refine zj [0,1,3,7,15,31,63,127,255,511,1023,511,4095,8191,16383] rfl ?_
 refine zH ?_
 refine dC (wa _ (jx.t zt)) ?_
 rintro _ h13 n13 ⟨b13,rfl,bq13⟩ y13 x13
 rcases bvs bq13 with ⟨rfl,q13⟩|⟨rfl,q13⟩
 ·refine zH ?_
  refine dC (sf _ (ix.t zt) (jx.t zt)) ?_
  rintro _ h14 n14 ⟨s14,rfl,q14⟩ y14 x14
  refine zH ?_
  refine dC (sf _ (iy.t zt) (jy.t zt)) ?_
  rintro _ h15 n15 ⟨s15,rfl,q15⟩ y15 x15
  by_cases q16:s14=s15
  ·refine zJ ?_
   refine zj [0,1,0,4,15,0,32,0,159,511,1023,2047] rfl ?_
   refine zH ?_
   refine dC (denQ _ (iy.t zt) (jy.t zt)) ?_
   rintro _ h17 n17 ⟨b17,a17,l17,c17,rfl,i17⟩ y17 x17
   refine dC (mulX _ (ix.t zt) i17 szB szB) ?_
   rintro _ h18 n18 ⟨b18,a18,l18,c18,rfl,i18⟩ y18 x18
   refine zH ?_
   refine dC (denQ _ (ix.t zt) (jx.t zt)) ?_
   rintro _ h19 n19 ⟨b19,a19,l19,c19,rfl,i19⟩ y19 x19
   refine dC (mulX _ (iy.t zt) i19 szB szB) ?_
   rintro _ h20 n20 ⟨b20,a20,l20,c20,rfl,i20⟩ y20 x20
   refine dC (sU _ (i18.t zt) i20 szB szB) ?_
   rintro _ h21 n21 ⟨s21,rfl,q21⟩ y21 x21
   refine zf ?_
   exact ⟨_,rfl,pq (qr) q21⟩
  refine zJ ?_
  refine sC (sU _ (ix.t zt) (iy.t zt) szB szB) ?_
  rintro _ h22 n22 ⟨s22,rfl,q22⟩ y22 x22
  refine zf ?_
  exact ⟨_,rfl,pq (iP zo) q22⟩
 refine zH ?_
 refine dC (wa _ (jy.t zt)) ?_
 rintro _ h23 n23 ⟨b23,rfl,bq23⟩ y23 x23
 rcases bvs bq23 with ⟨rfl,q23⟩|⟨rfl,q23⟩
 ·refine zH ?_
  refine dC (sf _ (ix.t zt) (jx.t zt)) ?_
  rintro _ h24 n24 ⟨s24,rfl,q24⟩ y24 x24
  refine zH ?_
  refine dC (sf _ (iy.t zt) (jy.t zt)) ?_
  rintro _ h25 n25 ⟨s25,rfl,q25⟩ y25 x25
  by_cases q26:s24=s25
  ·refine zJ ?_
   refine zj [0,1,0,4,15,0,32,0,159,511,1023,2047] rfl ?_
   refine zH ?_
   refine dC (denQ _ (iy.t zt) (jy.t zt)) ?_
   rintro _ h27 n27 ⟨b27,a27,l27,c27,rfl,i27⟩ y27 x27
   refine dC (mulX _ (ix.t zt) i27 szB szB) ?_
   rintro _ h28 n28 ⟨b28,a28,l28,c28,rfl,i28⟩ y28 x28
   refine zH ?_
   refine dC (denQ _ (ix.t zt) (jx.t zt)) ?_
   rintro _ h29 n29 ⟨b29,a29,l29,c29,rfl,i29⟩ y29 x29
   refine dC (mulX _ (iy.t zt) i29 szB szB) ?_
   rintro _ h30 n30 ⟨b30,a30,l30,c30,rfl,i30⟩ y30 x30
   refine dC (sU _ (i28.t zt) i30 szB szB) ?_
   rintro _ h31 n31 ⟨s31,rfl,q31⟩ y31 x31
   refine zf ?_
   exact ⟨_,rfl,pq (qr) q31⟩
  refine zJ ?_
  refine sC (sU _ (ix.t zt) (iy.t zt) szB szB) ?_
  rintro _ h32 n32 ⟨s32,rfl,q32⟩ y32 x32
  refine zf ?_
  exact ⟨_,rfl,pq (iP zo) q32⟩
 refine zJ ?_
 refine sC (sU _ (ix.t zt) (iy.t zt) szB szB) ?_
 rintro _ h33 n33 ⟨s33,rfl,q33⟩ y33 x33
 refine zf ?_
 exact ⟨_,rfl,pq (bR q13 q23) q33⟩
theorem zej {x y:Rat}(h1:x.num=y.num)(h2:denZ x=denZ y):x=y:=by
 refine Rat.ext h1 ?_
 have hx:=x.den_pos
 have hy:=y.den_pos
 unfold denZ at h2
 split at h2<;>split at h2<;>omega
theorem zfd (k:Nat){x:Rat}{y:Rat}(ix:IW h n sx ax lx cx x.num)(jx:IW h n dx ex fx gx (denZ x))(iy:IW h n sy ay ly cy y.num)(jy:IW h n dy ey fy gy (denZ y))(hx:Sz a x)(hy:Sz b y)(hab:a+b≤2496):VF (cal (k+5)) 130 [.agg #[.bool sx,.slice ax lx cx,.bool dx,.slice ex fx gx],.agg #[.bool sy,.slice ay ly cy,.bool dy,.slice ey fy gy]] h n fun v=>∃b:Bool,v=.bool b∧(b=true↔x=y):=by
 obtain ⟨hxn,hxd⟩:x.num.natAbs<2^a∧(denZ x).natAbs<2^a:=⟨hx.1,hx.z⟩
 obtain ⟨hyn,hyd⟩:y.num.natAbs<2^b∧(denZ y).natAbs<2^b:=⟨hy.1,hy.z⟩
 have hxn1:=xa hxn zo
 have hxd1:=xa hxd zo
 have hyn1:=xa hyn zo
 have hyd1:=xa hyd zo
 refine zA (fn:=Tryz.f130) R4 ?_
 refine zG ?_
 refine sB [.bool sx,.slice ax lx cx,.bool dx,.slice ex fx gx] ?_
 intro h11 p11 x11
 refine sB [.bool sy,.slice ay ly cy,.bool dy,.slice ey fy gy] ?_
 intro h12 p12 x12
 refine zG ?_
 refine sC (zc9 _ (ix.t zt) (iy.t zt) szB szB) ?_
 rintro _ h13 n13 ⟨b13,rfl,bq13⟩ y13 x13
 rcases bvs bq13 with ⟨rfl,q13⟩|⟨rfl,q13⟩
 ·refine zf ?_
  exact zno fun hq=>absurd (congrArg Rat.num hq) q13
 refine zG ?_
 refine sC (zc9 _ (jx.t zt) (jy.t zt) szB szB) ?_
 rintro _ h14 n14 ⟨b14,rfl,bq14⟩ y14 x14
 rcases bvs bq14 with ⟨rfl,q14⟩|⟨rfl,q14⟩
 ·refine zf ?_
  exact zno fun hq=>absurd (congrArg denZ hq) q14
 refine zf ?_
 exact zye (zej q13 q14)
end
section
theorem zv {S:List (List UInt8)}{h:HF}{n:Nat}{a:Option Addr}{len cap:Nat}(hs:Sl h n 1 (.slice a len cap) (strs S)):len=S.length:=by
 obtain ⟨a',len',cap',e,hl⟩:=hs.len
 injection e with e1 e2 e3
 rw [zah] at hl
 omega
theorem zeh (m:Nat)(l:List Value):(rep m l).length=m*l.length:=by
 induction m with
 |zero=>simp [rep]
 |succ m ih=>rw [rep,List.length_append,ih,Nat.succ_mul];omega
end
section
variable {h':HF}{bb g l m n':Nat}{cs:List Value}{e:TypeId}{L ld ln w:List Nat}{d1 d2 n1 n2 v:Value}{q:Rat}{b1:Bool}
def UW (h:HF)(n:Nat)(a:Option Addr)(l c m:Nat):Prop:=∃L,Sl h n 1 (.slice a l c) (u32s L)∧Norm L∧val L=m
theorem UW.ext {h:HF}{n:Nat}{a:Option Addr}{c:Nat}(i:UW h n a l c m)(e:Ext n h h')(hn:n≤n'):UW h' n' a l c m:=by
 obtain ⟨L,h1,h2,h3⟩:=i
 exact ⟨L,h1.ext e hn,h2,h3⟩
theorem UW.only {h:HF}{n:Nat}{a:Option Addr}{c:Nat}(i:UW h n a l c m)(hp:h bb=some (.row cs e))(hu:cs.all nu=true)(ho:Only bb h h'):UW h' n a l c m:=by
 obtain ⟨L,h1,h2,h3⟩:=i
 exact ⟨L,h1.only32 hp hu ho,h2,h3⟩
theorem UW.t {h:HF}{n:Nat}{a:Option Addr}{c:Nat}(i:UW h n a l c m)(t:Tr n h n' h'):UW h' n' a l c m:=by
 obtain ⟨L,h1,h2,h3⟩:=i
 exact ⟨L,h1.trG (fun x hx=>by obtain ⟨d,_,rfl⟩:=List.mem_map.1 hx;rfl) t,h2,h3⟩
theorem UW.x {h:HF}{n:Nat}{a:Option Addr}{c:Nat}(i:UW h n a l c m)(t:Tx n h n' h'):UW h' n' a l c m:=i.ext t.2 t.1
theorem UW.zero {h:HF}{n:Nat}{a:Option Addr}{c:Nat}(i:UW h n a l c m):l=0↔m=0:=by
 obtain ⟨L,h1,h2,h3⟩:=i
 have e:=h1.lenU
 rw [←h3,h2.zero,←List.length_eq_zero_iff,e]
theorem UW.nil (h:HF)(n:Nat):UW h n none 0 0 0:=⟨[],.nil (.inl rfl),Norm.nil,rfl⟩
def UI (h:HF)(n:Nat)(b:Bool)(a:Option Addr)(l c:Nat)(x:Int):Prop:=b=decide (x<0)∧UW h n a l c x.natAbs
theorem UI.ext {h:HF}{n:Nat}{b:Bool}{a:Option Addr}{c:Nat}{x:Int}(i:UI h n b a l c x)(e:Ext n h h')(hn:n≤n'):UI h' n' b a l c x:=⟨i.1,i.2.ext e hn⟩
theorem UI.only {h:HF}{n:Nat}{b:Bool}{a:Option Addr}{c:Nat}{x:Int}(i:UI h n b a l c x)(hp:h bb=some (.row cs e))(hu:cs.all nu=true)(ho:Only bb h h'):UI h' n b a l c x:=⟨i.1,i.2.only hp hu ho⟩
theorem UI.t {h:HF}{n:Nat}{b:Bool}{a:Option Addr}{c:Nat}{x:Int}(i:UI h n b a l c x)(t:Tr n h n' h'):UI h' n' b a l c x:=⟨i.1,i.2.t t⟩
theorem UI.x {h:HF}{n:Nat}{b:Bool}{a:Option Addr}{c:Nat}{x:Int}(i:UI h n b a l c x)(t:Tx n h n' h'):UI h' n' b a l c x:=i.ext t.2 t.1
theorem UI.as {h:HF}{n:Nat}{b:Bool}{a:Option Addr}{c:Nat}{x y:Int}(i:UI h n b a l c x)(e:x=y):UI h n b a l c y:=e▸i
theorem UI.lt {h:HF}{n:Nat}{a:Option Addr}{c:Nat}{x:Int}(i:UI h n true a l c x):x<0:=of_decide_eq_true i.1.symm
theorem UI.ge {h:HF}{n:Nat}{a:Option Addr}{c:Nat}{x:Int}(i:UI h n false a l c x):0≤x:=Int.not_lt.1 (of_decide_eq_false i.1.symm)
theorem UI.zero (h:HF)(n:Nat):UI h n false none 0 0 0:=⟨rfl,UW.nil h n⟩
def UV (m:Nat)(v:Value)(h:HF)(n:Nat):Prop:=∃a l c,v=.slice a l c∧UW h n a l c m
def UIV (x:Int)(v:Value)(h:HF)(n:Nat):Prop:=∃b a l c,v=.agg #[.bool b,.slice a l c]∧UI h n b a l c x
def NQ (q:Rat)(v:Value)(h:HF)(n:Nat):Prop:=∃b a l c d e f g,v=.agg #[.bool b,.slice a l c,.bool d,.slice e f g]∧UI h n b a l c q.num∧UI h n d e f g (denZ q)
theorem NQ.zero (h:HF)(n:Nat):NQ 0 (.agg #[.bool false,.slice none 0 0,.bool false,.slice none 0 0]) h n:=⟨_,_,_,_,_,_,_,_,rfl,UI.zero h n,UI.zero h n⟩
theorem Norm.len800 (h:Norm L)(hb:val L<BW):L.length≤800:=by
 refine h.len_pow (Nat.lt_of_lt_of_le hb ?_)
 unfold BW
 decide+kernel
theorem UI.r {h:HF}{n:Nat}{b:Bool}{a:Option Addr}{c:Nat}{x:Int}(i:UI h n b a l c x):∃L,IntR h n (.bool b) (.slice a l c) x L:=by
 obtain ⟨e,L,h1,h2,h3⟩:=i
 exact ⟨L,by rw [e],h1,h2,h3⟩
theorem IntR.ui {h:HF}{n:Nat}{c1 c2:Value}{x:Int}(i:IntR h n c1 c2 x L):∃b a l c,c1=.bool b∧c2=.slice a l c∧UI h n b a l c x:=by
 obtain ⟨rfl,hs,hn,hv⟩:=i
 obtain ⟨a,l,c,rfl,_⟩:=hs.len
 exact ⟨_,_,_,_,rfl,rfl,rfl,L,hs,hn,hv⟩
theorem RatR.nq {h:HF}{n:Nat}(r:RatR h n n1 n2 d1 d2 q ln ld):NQ q (.agg #[n1,n2,d1,d2]) h n:=by
 obtain ⟨b,a,l,c,rfl,rfl,i⟩:=r.num.ui
 obtain ⟨_,rfl,hs,hn,hv⟩:=r
 obtain ⟨a',l',c',rfl,_⟩:=hs.len
 refine ⟨_,_,_,_,_,_,_,_,rfl,i,?_,ld,hs,hn,?_⟩
 ·unfold denZ;split<;>simp
 rw [hv];unfold denZ;split<;>simp
theorem NQ.r {h:HF}{n:Nat}{b d:Bool}{a e:Option Addr}{c f:Nat}(i:UI h n b a l c q.num)(j:UI h n d e f g (denZ q)):∃ln ld,RatR h n (.bool b) (.slice a l c) (.bool d) (.slice e f g) q ln ld∧(∀m,Sz m q→m≤2496→ln.length≤800∧ld.length≤800):=by
 obtain ⟨ln,hi⟩:=i.r
 obtain ⟨e2,ld,h1,h2,h3⟩:=j
 refine ⟨ln,ld,⟨hi,?_,h1,h2,?_⟩,fun m hm hl=>⟨hi.norm.len800 (by rw [hi.val];exact xa hm.1 hl),h2.len800 (by rw [h3];exact xa hm.z hl)⟩⟩
 ·rw [e2];unfold denZ;split<;>simp
 rw [h3];unfold denZ;split<;>simp
theorem NewU.uv {n:Nat}{h:HF}(r:NewU n h v h' n' w L)(e:val L=m):Gw n h (UV m) v h' n' w:=by
 obtain ⟨h1,h2,h3,a,c,rfl,h4,h5,_⟩:=r
 exact ⟨h1,h2,h3,_,_,_,rfl,L,h4,h5,e⟩
theorem uH (k:Nat){h:HF}{n:Nat}{a:Option Addr}{c:Nat}(i:UW h n a l c m)(neg:Bool):CX (cal (k+1)) 127 [.bool neg,.slice a l c] h n (UIV (sgZ neg m)):=by
 refine y9 (vu k h n neg a l c) ?_
 rintro _ h' n' _ ⟨rfl,rfl,rfl,hx⟩
 refine ⟨rfl,Nat.le_succ _,hx,_,_,_,_,rfl,?_,?_⟩
 ·rw [eP]
  have:=i.zero
  congr 1
  by_cases h0:0<l
  ·rw [decide_eq_true h0,decide_eq_true zo]
  rw [decide_eq_false h0,decide_eq_false zo]
 rw [eS]
 exact i.ext hx zs
section
variable (k:Nat){h:HF}{n:Nat}{a1 a2:Option Addr}{l1 c1 l2 c2 x y:Nat}
theorem zhu (i:UW h n a1 l1 c1 x)(j:UW h n a2 l2 c2 y)(hb:x<BW∧y<BW):CX (cal (k+2)) 154 [.slice a1 l1 c1,.slice a2 l2 c2] h n (UV (x+y)):=by
 obtain ⟨A,hA,nA,rfl⟩:=i
 obtain ⟨C,hC,nC,rfl⟩:=j
 have:=nA.len800 hb.1
 have:=nC.len800 hb.2
 refine y9 (lv k hA hC nA.1 nC.1 zo) ?_
 rintro v h' n' w ⟨L,r,e⟩
 exact r.uv e
theorem gk (i:UW h n a1 l1 c1 x)(j:UW h n a2 l2 c2 y)(hb:x<BW∧y<BW)(hle:y≤x):CX (cal (k+2)) 156 [.slice a1 l1 c1,.slice a2 l2 c2] h n (UV (x-y)):=by
 obtain ⟨A,hA,nA,rfl⟩:=i
 obtain ⟨C,hC,nC,rfl⟩:=j
 have:=nA.len800 hb.1
 refine y9 (ep k hA hC nA.1 nC.1 zo (nA.len_le nC hle) hle) ?_
 rintro v h' n' w ⟨L,r,e⟩
 exact r.uv e
theorem za8 (i:UW h n a1 l1 c1 x)(j:UW h n a2 l2 c2 y)(hb:x<BW∧y<BW):CX (cal (k+2)) 161 [.slice a1 l1 c1,.slice a2 l2 c2] h n (UV (x*y)):=by
 obtain ⟨A,hA,nA,rfl⟩:=i
 obtain ⟨C,hC,nC,rfl⟩:=j
 have:=nA.len800 hb.1
 have:=nC.len800 hb.2
 refine y9 (mB k hA hC nA.1 nC.1 zo) ?_
 rintro v h' n' w ⟨L,r,e⟩
 exact r.uv e
theorem zhl (i:UW h n a1 l1 c1 x)(j:UW h n a2 l2 c2 y)(hb:x<BW∧y<BW):CX (cal (k+1)) 155 [.slice a1 l1 c1,.slice a2 l2 c2] h n (SV3 ((x:Int)-y)):=by
 obtain ⟨A,hA,nA,rfl⟩:=i
 obtain ⟨C,hC,nC,rfl⟩:=j
 have:=nA.len800 hb.1
 refine (mX k hA hC nA nC zo).cx.mono ?_
 rintro _ _ _ rfl
 refine ⟨_,rfl,?_⟩
 rcases Nat.lt_trichotomy (val A) (val C) with h|h|h
 ·exact .inl ⟨vh h,zo⟩
 ·exact .inr (.inl ⟨by rw [h];exact ry _,zo⟩)
 exact .inr (.inr ⟨vG h,zo⟩)
theorem cE (h:HF)(n:Nat):CX (cal (k+2)) 162 [.int .i64 1] h n (UIV 1):=by
 refine y9 (gY k h n 1 zd) ?_
 rintro _ h' n' w ⟨h1,h2,h3,c1,c2,L,rfl,r,_⟩
 obtain ⟨b,a,l,c,rfl,rfl,i⟩:=r.ui
 exact ⟨h1,h2,h3,_,_,_,_,rfl,i⟩
end
theorem zif (k:Nat){h:HF}{n:Nat}{b:Bool}{a:Option Addr}{c:Nat}{x:Int}(i:UI h n b a l c x):CX (cal (k+2)) 157 [.agg #[.bool b,.slice a l c]] h n (UIV (-x)):=by
 obtain ⟨L,r⟩:=i.r
 refine y9 (dW k r) ?_
 rintro _ h' n' w ⟨h1,h2,h3,c1,rfl,r⟩
 obtain ⟨b,a,l,c,rfl,e,i⟩:=r.ui
 cases e
 exact ⟨h1,h2,h3,_,_,_,_,rfl,i⟩
theorem j6 (k:Nat){h:HF}{n:Nat}{b2:Bool}{a1 a2:Option Addr}{l1 c1 l2 c2:Nat}{x y:Int}(i:UI h n b1 a1 l1 c1 x)(j:UI h n b2 a2 l2 c2 y)(hx:x.natAbs<BW)(hy:y.natAbs<BW)(hy0:y≠0)(hq:Rat.divInt x y=q):CX (cal (k+5)) 119 [.agg #[.bool b1,.slice a1 l1 c1],.agg #[.bool b2,.slice a2 l2 c2]] h n (NQ q):=by
 obtain ⟨A,r⟩:=i.r
 obtain ⟨C,s⟩:=j.r
 have:=r.norm.len800 (by rw [r.val];exact hx)
 have:=s.norm.len800 (by rw [s.val];exact hy)
 refine y9 (cF k r s hy0 zo) ?_
 rintro _ h' n' w ⟨h1,h2,h3,u1,u2,e1,e2,ln,ld,rfl,r,_⟩
 rw [hq] at r
 exact ⟨h1,h2,h3,r.nq⟩
theorem wZ (k:Nat){h:HF}{n:Nat}{b d:Bool}{a e:Option Addr}{c f:Nat}(i:UI h n b a l c q.num)(j:UI h n d e f g (denZ q)):CX (cal (k+2)) 85 [.agg #[.bool b,.slice a l c,.bool d,.slice e f g]] h n (SV3 q.num):=by
 obtain ⟨ln,ld,r,_⟩:=NQ.r i j
 refine (zas k r).cx.mono ?_
 rintro _ _ _ rfl
 refine ⟨_,rfl,?_⟩
 rcases Int.lt_trichotomy q.num 0 with h|h|h
 ·exact .inl ⟨Int.sign_eq_neg_one_of_neg h,h⟩
 ·exact .inr (.inl ⟨by rw [h];rfl,h⟩)
 exact .inr (.inr ⟨Int.sign_eq_one_of_pos h,h⟩)
theorem zcn (k:Nat){h:HF}{n:Nat}{b d:Bool}{a e:Option Addr}{c f:Nat}(i:UI h n b a l c q.num)(j:UI h n d e f g (denZ q))(hm:Sz m q)(hb:m≤2496):VF (cal (k+4)) 32 [.agg #[.bool b,.slice a l c,.bool d,.slice e f g]] h n fun v=>v=.string ⟨⟨ratT q⟩⟩:=by
 obtain ⟨ln,ld,r,hl⟩:=NQ.r i j
 have:=hl m hm hb
 exact ei k r zo
theorem dk (k:Nat)(h:HF)(n:Nat)(s:List UInt8)(hs:s.length<1000000):CX (cal (k+6)) 77 [.string ⟨⟨s⟩⟩] h n fun v h' n'=>∃b a l c d e f g ok,∃q:Rat,v=.tuple #[.agg #[.bool b,.slice a l c,.bool d,.slice e f g],.bool ok]∧UI h' n' b a l c q.num∧UI h' n' d e f g (denZ q)∧(ok=true→ratT q=s)∧(xM s→ok=true):=by
 refine y9 (zei k h n s hs) ?_
 rintro _ h' n' w ⟨h1,h2,h3,n1,n2,d1,d2,q,ln,ld,ok,rfl,r,_,_,_,_,h4,h5⟩
 obtain ⟨b,a,l,c,d,e,f,g,e1,i,j⟩:=r.nq
 injection e1 with e1
 injection e1 with e1
 injection e1 with e2 e1
 injection e1 with e3 e1
 injection e1 with e4 e1
 injection e1 with e5 _
 subst e2 e3 e4 e5
 exact ⟨h1,h2,h3,_,_,_,_,_,_,_,_,ok,q,rfl,i,j,h4,h5⟩
end
end Go.Proofs.YtlmbghgklnmlkaaGreatDoor
namespace Go.Proofs.YtlmbghgklnmlkaaGreatDoor
variable {V a b:Nat}
def dig (b:UInt8):Bool:=decide (48≤b.toNat∧b.toNat≤57)
theorem pj {b:UInt8}:dig b=true↔48≤b.toNat∧b.toNat≤57:=by unfold dig;simp
theorem AllD.all {s:List UInt8}:AllD s↔∀b∈s,dig b=true:=by
 unfold AllD
 constructor
 ·exact fun h b hb=>pj.2 (h b hb)
 exact fun h b hb=>pj.1 (h b hb)
theorem uf {p:UInt8→Bool}{s:List UInt8}:∀b∈s.takeWhile p,p b=true:=by
 induction s with
 |nil=>intro b hb;simp at hb
 |cons x s ih=>
  intro b hb
  rw [List.takeWhile_cons] at hb
  split at hb
  ·rename_i h
   rcases List.mem_cons.1 hb with rfl|hb
   ·exact h
   exact ih b hb
  simp at hb
theorem sa {a r:List UInt8}(ha:AllD a)(hr:r=[]∨∃x r',r=x::r'∧dig x=false):(a++r).takeWhile dig=a∧(a++r).dropWhile dig=r:=by
 induction a with
 |nil=>
  rcases hr with rfl|⟨x,r',rfl,hx⟩
  ·exact ⟨rfl,rfl⟩
  simp [List.takeWhile_cons,List.dropWhile_cons,hx]
 |cons b a ih=>
  have hb:dig b=true:=pj.2 (ha b (by simp))
  have:=ih fun c hc=>ha c (by simp [hc])
  simp only [List.cons_append,List.takeWhile_cons,List.dropWhile_cons,hb,if_true]
  exact ⟨by rw [this.1],this.2⟩
theorem jz {a b:UInt8}(h:a.toNat=b.toNat):a=b:=UInt8.toNat_inj.1 h
theorem iD {b:UInt8}(h:48≤b.toNat∧b.toNat≤57):UInt8.ofNat (48+(b.toNat-48))=b:=by
 apply jz
 rw [ur zo]
 omega
theorem bH {d:List UInt8}(hd:AllD d)(h0:d≠[])(h1:d.head?≠some 48):dval d≠0∧(decB (dval d)).map UInt8.ofNat=d:=by
 induction hl:d.length generalizing d with
 |zero=>exact absurd (List.length_eq_zero_iff.1 hl) h0
 |succ m ih=>
  obtain ⟨i,b,rfl⟩:∃i b,d=i++[b]:=⟨d.dropLast,d.getLast h0,(List.dropLast_concat_getLast h0).symm⟩
  have hb:=hd b (by simp)
  rw [sN]
  by_cases hi:i=[]
  ·subst hi
   have hb0:b.toNat≠48:=fun e=>h1 (by show some b=some 48;rw [jz (a:=b) (b:=48) e])
   have e0:dval []=0:=rfl
   rw [e0]
   refine ⟨zo,?_⟩
   rw [pm zo (.inr zo)]
   have:decB 0=[]:=by unfold decB;rw [yO];rfl
   rw [this,List.nil_append,List.map_cons,List.map_nil,iD hb]
   rfl
  obtain ⟨h2,h3⟩:=ih (d:=i) (fun c hc=>hd c (by simp [hc])) hi (by
   cases i with
   |nil=>exact absurd rfl hi
   |cons x i=>simpa using h1) (by simpa using hl)
  refine ⟨zo,?_⟩
  rw [pm zo (.inl h2),List.map_append,h3,List.map_cons,List.map_nil,iD hb]
theorem rt {d:List UInt8}(hd:AllD d)(h0:d≠[])(h1:d.head?≠some 48):decT (dval d)=d:=by
 obtain ⟨h2,h3⟩:=bH hd h0 h1
 unfold decT
 rw [if_neg h2,h3]
theorem iG:decT 1=[49]:=rt (d:=[49]) (fun b hb=>by rw [List.mem_singleton.1 hb];decide) (by simp) (by simp)
theorem bJ (h:V≠0):((decB V).map UInt8.ofNat).head?≠some 48:=by
 induction V using Nat.strongRecOn with
 |ind V ih=>
  have e:decB V=decB (V/10)++[48+V%10]:=by
   unfold decB
   rw [wf h]
   simp
  rw [e]
  by_cases h2:V/10=0
  ·have:decB (V/10)=[]:=by unfold decB;rw [h2,yO];rfl
   rw [this]
   intro he
   simp only [List.nil_append,List.map_cons,List.map_nil,List.head?_cons,Option.some.injEq] at he
   have:=ur (c:=V%10) zo
   rw [he] at this
   have e48:(48:UInt8).toNat=48:=rfl
   omega
  have:=ih (V/10) zo h2
  cases hd:(decB (V/10)).map UInt8.ofNat with
  |nil=>
   have h5:=(qo (V/10)).2
   rw [hd] at h5
   exact absurd h5.symm h2
  |cons x l=>
   rw [List.map_append,hd]
   rw [hd] at this
   simpa using this
theorem mS (h:V≠0):(decT V).head?≠some 48:=by
 unfold decT
 rw [if_neg h]
 exact bJ h
theorem iI (h:decT a=decT b):a=b:=by
 rw [←(xA a).2.1,h,(xA b).2.1]
def spl (s:List UInt8):List UInt8×List UInt8×Bool:=
 let b:=yG s
 let m:=b.takeWhile dig
 let r:=b.dropWhile dig
 if m=[48] then (m,[],!zw s&&r.isEmpty)
 else if m=[]∨m.head?=some 48 then (m,[],false)
 else if r=[] then (m,[],true)
 else if r.head?≠some 47 then (m,[],false)
 else
  let d:=(r.drop 1).takeWhile dig
  let r2:=(r.drop 1).dropWhile dig
  (m,d,r2.isEmpty&& !d.isEmpty&&d.head? != some 48&&d != [49])
theorem fK (s:List UInt8):(yG s).takeWhile dig++(yG s).dropWhile dig=yG s:=List.takeWhile_append_dropWhile
theorem zes {s:List UInt8}:s=(if zw s then [45] else [])++yG s:=by
 unfold yG
 by_cases h:zw s=true
 ·rw [if_pos h,if_pos h]
  unfold zw at h
  cases s with
  |nil=>simp at h
  |cons x s=>
   have:x=45:=by simpa using h
   subst this
   rfl
 rw [if_neg h,if_neg h]
 rfl
structure Frm (s:List UInt8)(m d:List UInt8):Prop where
 dm:AllD m
 m0:m≠[]
 dd:AllD d
 lead:m=[48]∧zw s=false∧d=[]∨m.head?≠some 48
 den:d=[]∨d.head?≠some 48∧d≠[49]
 eq:s=(if zw s then [45] else [])++(m++(if d=[] then [] else 47::d))
theorem oW {s:List UInt8}{m d:List UInt8}(h:spl s=(m,d,true)):Frm s m d:=by
 have hb:=fK s
 have hs:=zes (s:=s)
 have hm:AllD ((yG s).takeWhile dig):=AllD.all.2 uf
 unfold spl at h
 simp only at h
 generalize (yG s).takeWhile dig=m0 at*
 generalize (yG s).dropWhile dig=r at*
 split at h
 ·rename_i h48
  simp only [Prod.mk.injEq] at h
  obtain ⟨rfl,rfl,h3⟩:=h
  simp only [Bool.and_eq_true,Bool.not_eq_true',List.isEmpty_iff] at h3
  obtain ⟨h3,rfl⟩:=h3
  refine ⟨hm,by rw [h48];simp,fun b hb=>absurd hb (by simp),.inl ⟨h48,h3,rfl⟩,.inl rfl,?_⟩
  rw [if_pos rfl,hb];exact hs
 split at h
 ·simp at h
 rename_i h48 hne
 have hne1:¬m0=[]:=fun e=>hne (.inl e)
 have hne2:¬m0.head?=some 48:=fun e=>hne (.inr e)
 split at h
 ·rename_i hr
  simp only [Prod.mk.injEq] at h
  obtain ⟨rfl,rfl,_⟩:=h
  refine ⟨hm,hne1,fun b hb=>absurd hb (by simp),.inr hne2,.inl rfl,?_⟩
  subst hr
  rw [if_pos rfl,hb];exact hs
 split at h
 ·simp at h
 rename_i hr h47
 have h47:r.head?=some 47:=Classical.not_not.1 h47
 simp only [Prod.mk.injEq] at h
 obtain ⟨rfl,rfl,h3⟩:=h
 simp only [Bool.and_eq_true,Bool.not_eq_true',List.isEmpty_iff,bne_iff_ne,ne_eq] at h3
 obtain ⟨⟨⟨h3,h4⟩,h5⟩,h6⟩:=h3
 obtain ⟨r',rfl⟩:∃r',r=47::r':=by
  cases r with
  |nil=>simp at h47
  |cons x r=>exact ⟨r,by simp at h47;rw [h47]⟩
 simp only [List.drop_one,List.tail_cons] at h3 h4 h5 h6 ⊢
 have hd:AllD (r'.takeWhile dig):=AllD.all.2 uf
 have hd2:r'.takeWhile dig++r'.dropWhile dig=r':=List.takeWhile_append_dropWhile
 rw [h3,List.append_nil] at hd2
 rw [hd2] at hd h4 h5 h6 ⊢
 have hne:¬r'=[]:=fun e=>by rw [e] at h4;simp at h4
 refine ⟨hm,hne1,hd,.inr hne2,.inr ⟨h5,h6⟩,?_⟩
 rw [if_neg hne,hb];exact hs
theorem o6 (q:Rat):spl (ratT q)=(decT q.num.natAbs,(if q.den=1 then [] else decT q.den),true):=by
 obtain ⟨h1,h2⟩:=th q
 obtain ⟨hd,hv,hne⟩:=xA q.num.natAbs
 obtain ⟨dd,dvv,dne⟩:=xA q.den
 have htw:=sa (a:=decT q.num.natAbs) (r:=if q.den=1 then [] else 47::decT q.den) hd (by
  by_cases h:q.den=1
  ·left;rw [if_pos h]
  ·right;rw [if_neg h];exact ⟨47,_,rfl,rfl⟩)
 have hdw:=sa (a:=decT q.den) (r:=[]) dd (.inl rfl)
 rw [List.append_nil] at hdw
 unfold spl
 simp only
 rw [h2,htw.1,htw.2,h1]
 by_cases h0:q.num=0
 ·have hq:q.den=1:=by
   have:=q.reduced
   rw [h0] at this
   simpa using this
  rw [h0,if_pos hq,if_pos hq]
  rfl
 have hn0:q.num.natAbs≠0:=zo
 have hhd:=mS hn0
 have h48:¬decT q.num.natAbs=[48]:=fun e=>hhd (by rw [e];rfl)
 rw [if_neg h48,if_neg (by rintro (e|e);exact hne e;exact hhd e)]
 by_cases hq:q.den=1
 ·rw [if_pos hq,if_pos rfl,if_pos hq]
 rw [if_neg hq,if_neg (by simp),if_neg (by simp),if_neg hq]
 simp only [List.drop_one,List.tail_cons]
 rw [hdw.1,hdw.2]
 have hd0:q.den≠0:=q.den_nz
 have e1:(decT q.den).isEmpty=false:=by cases h:decT q.den with
  |nil=>exact absurd h dne
  |cons x l=>rfl
 have e2:((decT q.den).head? != some 48)=true:=by rw [bne_iff_ne];exact mS hd0
 have e3:(decT q.den != [49])=true:=by
  rw [bne_iff_ne]
  intro e
  have:dval (decT q.den)=1:=by rw [e];rfl
  rw [dvv] at this
  exact hq this
 rw [e1,e2,e3]
 rfl
theorem Frm.rat {s m d:List UInt8}(h:Frm s m d)(hg:d=[]∨Nat.gcd (dval m) (dval d)=1):∃q:Rat,ratT q=s∧q.num=(if zw s then -(dval m:Int) else dval m)∧q.den=(if d=[] then 1 else dval d):=by
 obtain ⟨dm,m0,dd,lead,den,eq⟩:=h
 have hdv:∃D:Nat,D≠0∧D=(if d=[] then 1 else dval d)∧Nat.gcd (dval m) D=1∧(if D=1 then [] else 47::decT D)=(if d=[] then [] else 47::d):=by
  by_cases hd:d=[]
  ·refine ⟨1,by decide,by rw [if_pos hd],Nat.gcd_one_right _,by rw [if_pos rfl,if_pos hd]⟩
  rcases den with h|⟨h1,h2⟩
  ·exact absurd h hd
  have e:=rt dd hd h1
  refine ⟨dval d,(bH dd hd h1).1,by rw [if_neg hd],hg.resolve_left hd,?_⟩
  rw [e,if_neg hd,if_neg]
  intro h
  rw [h] at e
  exact h2 (by rw [←e];exact iG)
 obtain ⟨D,D0,hD,hgD,hDt⟩:=hdv
 refine ⟨⟨if zw s then -(dval m:Int) else dval m,D,D0,?_⟩,?_,rfl,hD⟩
 ·show Nat.Coprime _ _
  unfold Nat.Coprime
  split
  ·rw [Int.natAbs_neg];exact hgD
  exact hgD
 have habs:(if zw s then -(dval m:Int) else dval m).natAbs=dval m:=by
  split
  ·rw [Int.natAbs_neg];rfl
  rfl
 have hm:decT (dval m)=m:=by
  rcases lead with ⟨h,_,_⟩|h
  ·rw [h];rfl
  exact rt dm m0 h
 have hsign:(if (if zw s then -(dval m:Int) else dval m)<0 then [45] else [])=(if zw s then [45] else ([]:List UInt8)):=by
  by_cases hh:zw s=true
  ·rw [if_pos hh,if_pos hh]
   rcases lead with ⟨_,h,_⟩|h
   ·rw [h] at hh;cases hh
   have:=(bH dm m0 h).1
   rw [if_pos zo]
  rw [if_neg hh,if_neg hh,if_neg zo]
 show (if (if zw s then -(dval m:Int) else dval m)<0 then [45] else [])++(decT (if zw s then -(dval m:Int) else dval m).natAbs++(if D=1 then [] else 47::decT D))=s
 rw [hsign,habs,hm,hDt]
 exact eq.symm
theorem q9 (s:List UInt8):xM s↔(spl s).2.2=true∧((spl s).2.1=[]∨Nat.gcd (dval (spl s).1) (dval (spl s).2.1)=1):=by
 constructor
 ·rintro ⟨q,rfl⟩
  rw [o6]
  refine ⟨rfl,?_⟩
  by_cases hq:q.den=1
  ·left;show (if q.den=1 then [] else _)=_;rw [if_pos hq]
  right
  show Nat.gcd (dval (decT _)) (dval (if q.den=1 then [] else _))=1
  rw [if_neg hq,(xA _).2.1,(xA _).2.1]
  exact q.reduced
 rintro ⟨h1,h2⟩
 have hf:=oW (s:=s) (m:=(spl s).1) (d:=(spl s).2.1) (by rw [←h1])
 obtain ⟨q,hq,_⟩:=hf.rat h2
 exact ⟨q,hq⟩
end Go.Proofs.YtlmbghgklnmlkaaGreatDoor
namespace Go.Proofs.YtlmbghgklnmlkaaGreatDoor
open Go Go.GL
variable {b bt cap j k n0 off u:Nat}{c cs:List Value}{e ty:TypeId}{v x1 x10 x2 x3 x4 x5 x6 x7 x8 x9 z:Value}{S:List (List UInt8)}{q:Rat}{aq:Option Addr}{ik:IntKind}{y:Operand}{h0:HF}
theorem za0 {p q:Rat}(h:ratT p=ratT q):p=q:=by
 have h1:=o6 p
 have h2:=o6 q
 rw [h,h2] at h1
 have e1:decT q.num.natAbs=decT p.num.natAbs:=congrArg Prod.fst h1
 have e2:(if q.den=1 then [] else decT q.den)=(if p.den=1 then [] else decT p.den):=congrArg (fun x=>x.2.1) h1
 have m1:=(th p).1
 have m2:=(th q).1
 rw [h,m2] at m1
 have a1:=iI e1
 have hs:q.num<0↔p.num<0:=decide_eq_decide.1 m1
 refine Rat.ext zo ?_
 have n1:=(xA p.den).2.2
 have n2:=(xA q.den).2.2
 split at e2<;>split at e2
 ·omega
 ·exact absurd e2.symm n1
 ·exact absurd e2 n2
 exact (iI e2).symm
noncomputable def zB (s:List UInt8):Rat:=open Classical in if h:xM s then h.choose else 0
theorem wB {s:List UInt8}(h:¬xM s):zB s=0:=by unfold zB;rw [dif_neg h]
theorem oq {s:List UInt8}(h:xM s):ratT (zB s)=s:=by unfold zB;rw [dif_pos h];exact h.choose_spec
theorem qh {s:List UInt8}{q:Rat}(h:ratT q=s):zB s=q:=za0 ((oq ⟨q,h⟩).trans h.symm)
theorem lQ (x y:Rat):((x-y).num<0→x<y)∧((x-y).num=0→x=y)∧(0<(x-y).num→y<x):=by
 have h1:=w8 x (-y)
 rw [←Rat.sub_eq_add_neg,Rat.neg_num,Rat.neg_den] at h1
 have hg:0<Nat.gcd (x.num*(y.den:Int)+ -y.num*(x.den:Int)).natAbs (x.den*y.den):=Nat.gcd_pos_of_pos_right _ (Nat.mul_pos x.den_pos y.den_pos)
 have hd:((Nat.gcd (x.num*(y.den:Int)+ -y.num*(x.den:Int)).natAbs (x.den*y.den):Nat):Int)∣x.num*(y.den:Int)+ -y.num*(x.den:Int):=Int.ofNat_dvd_left.2 (Nat.gcd_dvd_left _ _)
 have hc:=nG x y
 rw [Int.neg_mul] at*
 generalize Nat.gcd (x.num*(y.den:Int)+ -(y.num*(x.den:Int))).natAbs (x.den*y.den)=g at*
 obtain ⟨u,hu⟩:=hd
 rw [hu,Int.mul_ediv_cancel_left _ zo] at h1
 rw [h1]
 refine ⟨fun h=>hc.1.2 ?_,fun h=>hc.2.1.2 ?_,fun h=>hc.2.2.2 ?_⟩
 ·have:=Int.mul_neg_of_pos_of_neg (show (0:Int)<g by omega) h
  omega
 ·rw [h,Int.mul_zero] at hu
  omega
 have:=Int.mul_pos (show (0:Int)<g by omega) h
 omega
section
variable {h:HF}{a b cx cy fx fy gx gy lx ly n:Nat}{dx dy sx sy:Bool}{ax ay ex ey:Option Addr}
theorem addU (k:Nat){x:Int}{y:Int}(ix:UI h n sx ax lx cx x)(iy:UI h n sy ay ly cy y)(hx:x.natAbs<BW)(hy:y.natAbs<BW):CX (cal (k+3)) 118 [.agg #[.bool sx,.slice ax lx cx],.agg #[.bool sy,.slice ay ly cy]] h n (UIV (x+y)):=by
 refine zr (fn:=Tryz.f118) R4 ?_
 refine zG ?_
 refine sB [.bool sx,.slice ax lx cx] ?_
 intro h11 p11 x11
 refine sB [.bool sy,.slice ay ly cy] ?_
 intro h12 p12 x12
 refine sA ?_
 intro h13 p13 x13
 refine zG ?_
 cases sx
 ·refine zG ?_
  cases sy
  ·refine zG ?_
   refine zj [0,1,0,4,0,16,60,127,255] rfl ?_
   refine zH ?_
   refine dC (zhu _ (ix.t zt).2 (iy.t zt).2 (by first|exact ⟨hx,hy⟩|exact ⟨hy,hx⟩)) ?_
   rintro _ h14 n14 ⟨a14,l14,c14,rfl,i14⟩ y14 x14
   refine dC (uH _ i14 false) ?_
   rintro _ h15 n15 ⟨b15,a15,l15,c15,rfl,i15⟩ y15 x15
   refine dS [.bool b15,.slice a15 l15 c15] ?_
   intro h16 p16 o16
   refine zq ?_
   exact ⟨_,_,_,_,rfl,(i15.t zt).as (by have:=ix.ge;have:=iy.ge;unfold sgZ;(try simp only [if_true,if_false,Bool.false_eq_true]);omega)⟩
  refine zG ?_
  refine sC (zhl _ (ix.t zt).2 (iy.t zt).2 (by first|exact ⟨hx,hy⟩|exact ⟨hy,hx⟩)) ?_
  rintro _ h17 n17 ⟨s17,rfl,q17⟩ y17 x17
  rcases q17 with ⟨rfl,q17⟩|⟨rfl,q17⟩|⟨rfl,q17⟩
  ·refine zG ?_
   refine zj [0,1,0,4,0,16,60,127,255] rfl ?_
   refine zH ?_
   refine dC (gk _ (iy.t zt).2 (ix.t zt).2 (by first|exact ⟨hx,hy⟩|exact ⟨hy,hx⟩) zo) ?_
   rintro _ h18 n18 ⟨a18,l18,c18,rfl,i18⟩ y18 x18
   refine dC (uH _ i18 true) ?_
   rintro _ h19 n19 ⟨b19,a19,l19,c19,rfl,i19⟩ y19 x19
   refine dS [.bool b19,.slice a19 l19 c19] ?_
   intro h20 p20 o20
   refine zq ?_
   exact ⟨_,_,_,_,rfl,(i19.t zt).as (by have:=ix.ge;have:=iy.lt;unfold sgZ;(try simp only [if_true,if_false,Bool.false_eq_true]);omega)⟩
  ·refine zG ?_
   refine zj [0,1,0,4,0,16,60,127,255] rfl ?_
   refine zH ?_
   refine dC (gk _ (ix.t zt).2 (iy.t zt).2 (by first|exact ⟨hx,hy⟩|exact ⟨hy,hx⟩) zo) ?_
   rintro _ h21 n21 ⟨a21,l21,c21,rfl,i21⟩ y21 x21
   refine dC (uH _ i21 false) ?_
   rintro _ h22 n22 ⟨b22,a22,l22,c22,rfl,i22⟩ y22 x22
   refine dS [.bool b22,.slice a22 l22 c22] ?_
   intro h23 p23 o23
   refine zq ?_
   exact ⟨_,_,_,_,rfl,(i22.t zt).as (by have:=ix.ge;have:=iy.lt;unfold sgZ;(try simp only [if_true,if_false,Bool.false_eq_true]);omega)⟩
  refine zG ?_
  refine zj [0,1,0,4,0,16,60,127,255] rfl ?_
  refine zH ?_
  refine dC (gk _ (ix.t zt).2 (iy.t zt).2 (by first|exact ⟨hx,hy⟩|exact ⟨hy,hx⟩) zo) ?_
  rintro _ h24 n24 ⟨a24,l24,c24,rfl,i24⟩ y24 x24
  refine dC (uH _ i24 false) ?_
  rintro _ h25 n25 ⟨b25,a25,l25,c25,rfl,i25⟩ y25 x25
  refine dS [.bool b25,.slice a25 l25 c25] ?_
  intro h26 p26 o26
  refine zq ?_
  exact ⟨_,_,_,_,rfl,(i25.t zt).as (by have:=ix.ge;have:=iy.lt;unfold sgZ;(try simp only [if_true,if_false,Bool.false_eq_true]);omega)⟩
 refine zG ?_
 cases sy
 ·refine zG ?_
  refine sC (zhl _ (ix.t zt).2 (iy.t zt).2 (by first|exact ⟨hx,hy⟩|exact ⟨hy,hx⟩)) ?_
  rintro _ h27 n27 ⟨s27,rfl,q27⟩ y27 x27
  rcases q27 with ⟨rfl,q27⟩|⟨rfl,q27⟩|⟨rfl,q27⟩
  ·refine zG ?_
   refine zj [0,1,0,4,0,16,60,127,255] rfl ?_
   refine zH ?_
   refine dC (gk _ (iy.t zt).2 (ix.t zt).2 (by first|exact ⟨hx,hy⟩|exact ⟨hy,hx⟩) zo) ?_
   rintro _ h28 n28 ⟨a28,l28,c28,rfl,i28⟩ y28 x28
   refine dC (uH _ i28 false) ?_
   rintro _ h29 n29 ⟨b29,a29,l29,c29,rfl,i29⟩ y29 x29
   refine dS [.bool b29,.slice a29 l29 c29] ?_
   intro h30 p30 o30
   refine zq ?_
   exact ⟨_,_,_,_,rfl,(i29.t zt).as (by have:=ix.lt;have:=iy.ge;unfold sgZ;(try simp only [if_true,if_false,Bool.false_eq_true]);omega)⟩
  ·refine zG ?_
   refine zj [0,1,0,4,0,16,60,127,255] rfl ?_
   refine zH ?_
   refine dC (gk _ (ix.t zt).2 (iy.t zt).2 (by first|exact ⟨hx,hy⟩|exact ⟨hy,hx⟩) zo) ?_
   rintro _ h31 n31 ⟨a31,l31,c31,rfl,i31⟩ y31 x31
   refine dC (uH _ i31 true) ?_
   rintro _ h32 n32 ⟨b32,a32,l32,c32,rfl,i32⟩ y32 x32
   refine dS [.bool b32,.slice a32 l32 c32] ?_
   intro h33 p33 o33
   refine zq ?_
   exact ⟨_,_,_,_,rfl,(i32.t zt).as (by have:=ix.lt;have:=iy.ge;unfold sgZ;(try simp only [if_true,if_false,Bool.false_eq_true]);omega)⟩
  refine zG ?_
  refine zj [0,1,0,4,0,16,60,127,255] rfl ?_
  refine zH ?_
  refine dC (gk _ (ix.t zt).2 (iy.t zt).2 (by first|exact ⟨hx,hy⟩|exact ⟨hy,hx⟩) zo) ?_
  rintro _ h34 n34 ⟨a34,l34,c34,rfl,i34⟩ y34 x34
  refine dC (uH _ i34 true) ?_
  rintro _ h35 n35 ⟨b35,a35,l35,c35,rfl,i35⟩ y35 x35
  refine dS [.bool b35,.slice a35 l35 c35] ?_
  intro h36 p36 o36
  refine zq ?_
  exact ⟨_,_,_,_,rfl,(i35.t zt).as (by have:=ix.lt;have:=iy.ge;unfold sgZ;(try simp only [if_true,if_false,Bool.false_eq_true]);omega)⟩
 refine zG ?_
 refine zj [0,1,0,4,0,16,60,127,255] rfl ?_
 refine zH ?_
 refine dC (zhu _ (ix.t zt).2 (iy.t zt).2 (by first|exact ⟨hx,hy⟩|exact ⟨hy,hx⟩)) ?_
 rintro _ h37 n37 ⟨a37,l37,c37,rfl,i37⟩ y37 x37
 refine dC (uH _ i37 true) ?_
 rintro _ h38 n38 ⟨b38,a38,l38,c38,rfl,i38⟩ y38 x38
 refine dS [.bool b38,.slice a38 l38 c38] ?_
 intro h39 p39 o39
 refine zq ?_
 exact ⟨_,_,_,_,rfl,(i38.t zt).as (by have:=ix.lt;have:=iy.lt;unfold sgZ;(try simp only [if_true,if_false,Bool.false_eq_true]);omega)⟩
theorem mulU (k:Nat){x:Int}{y:Int}(ix:UI h n sx ax lx cx x)(iy:UI h n sy ay ly cy y)(hx:x.natAbs<BW)(hy:y.natAbs<BW):CX (cal (k+3)) 120 [.agg #[.bool sx,.slice ax lx cx],.agg #[.bool sy,.slice ay ly cy]] h n (UIV (x*y)):=by
 refine zr (fn:=Tryz.f120) R4 ?_
 refine zG ?_
 refine sB [.bool sx,.slice ax lx cx] ?_
 intro h11 p11 x11
 refine sB [.bool sy,.slice ay ly cy] ?_
 intro h12 p12 x12
 refine sA ?_
 intro h13 p13 x13
 refine zG ?_
 refine zj [0,1,0,4,15,0,32,0,128,480,1023,2047] rfl ?_
 refine zH ?_
 cases sx
 ·refine zH ?_
  cases sy
  ·refine zH ?_
   refine dC (za8 _ (ix.t zt).2 (iy.t zt).2 (by first|exact ⟨hx,hy⟩|exact ⟨hy,hx⟩)) ?_
   rintro _ h14 n14 ⟨a14,l14,c14,rfl,i14⟩ y14 x14
   refine dC (uH _ i14 false) ?_
   rintro _ h15 n15 ⟨b15,a15,l15,c15,rfl,i15⟩ y15 x15
   refine dS [.bool b15,.slice a15 l15 c15] ?_
   intro h16 p16 o16
   refine zq ?_
   exact ⟨_,_,_,_,rfl,(i15.t zt).as (by have:=ix.ge;have:=iy.ge;exact uN (by simp<;>omega))⟩
  refine zH ?_
  refine dC (za8 _ (ix.t zt).2 (iy.t zt).2 (by first|exact ⟨hx,hy⟩|exact ⟨hy,hx⟩)) ?_
  rintro _ h17 n17 ⟨a17,l17,c17,rfl,i17⟩ y17 x17
  refine dC (uH _ i17 true) ?_
  rintro _ h18 n18 ⟨b18,a18,l18,c18,rfl,i18⟩ y18 x18
  refine dS [.bool b18,.slice a18 l18 c18] ?_
  intro h19 p19 o19
  refine zq ?_
  exact ⟨_,_,_,_,rfl,(i18.t zt).as (by have:=ix.ge;have:=iy.lt;exact uN (by simp<;>omega))⟩
 refine zH ?_
 cases sy
 ·refine zH ?_
  refine dC (za8 _ (ix.t zt).2 (iy.t zt).2 (by first|exact ⟨hx,hy⟩|exact ⟨hy,hx⟩)) ?_
  rintro _ h20 n20 ⟨a20,l20,c20,rfl,i20⟩ y20 x20
  refine dC (uH _ i20 true) ?_
  rintro _ h21 n21 ⟨b21,a21,l21,c21,rfl,i21⟩ y21 x21
  refine dS [.bool b21,.slice a21 l21 c21] ?_
  intro h22 p22 o22
  refine zq ?_
  exact ⟨_,_,_,_,rfl,(i21.t zt).as (by have:=ix.lt;have:=iy.ge;exact uN (by simp<;>omega))⟩
 refine zH ?_
 refine dC (za8 _ (ix.t zt).2 (iy.t zt).2 (by first|exact ⟨hx,hy⟩|exact ⟨hy,hx⟩)) ?_
 rintro _ h23 n23 ⟨a23,l23,c23,rfl,i23⟩ y23 x23
 refine dC (uH _ i23 false) ?_
 rintro _ h24 n24 ⟨b24,a24,l24,c24,rfl,i24⟩ y24 x24
 refine dS [.bool b24,.slice a24 l24 c24] ?_
 intro h25 p25 o25
 refine zq ?_
 exact ⟨_,_,_,_,rfl,(i24.t zt).as (by have:=ix.lt;have:=iy.lt;exact uN (by simp<;>omega))⟩
theorem denU (k:Nat){x:Rat}(ix:UI h n sx ax lx cx x.num)(jx:UI h n dx ex fx gx (denZ x)):CX (cal (k+3)) 121 [.agg #[.bool sx,.slice ax lx cx,.bool dx,.slice ex fx gx]] h n (UIV (x.den:Int)):=by
 refine zr (fn:=Tryz.f121) R4 ?_
 refine zG ?_
 refine sB [.bool sx,.slice ax lx cx,.bool dx,.slice ex fx gx] ?_
 intro h11 p11 x11
 refine sA ?_
 intro h12 p12 x12
 refine zG ?_
 by_cases q13:(fx:Int)=0
 ·refine zG ?_
  refine sC (cE _ _ _) ?_
  rintro _ h14 n14 ⟨b14,a14,l14,c14,rfl,i14⟩ y14 x14
  refine sS [.bool b14,.slice a14 l14 c14] ?_
  intro h15 p15 o15
  refine zq ?_
  exact ⟨_,_,_,_,rfl,(i14.t zt).as (by rw [yZ.1 (Int.natAbs_eq_zero.1 (jx.2.zero.1 zo))];rfl)⟩
 refine zG ?_
 refine sS [.bool dx,.slice ex fx gx] ?_
 intro h16 p16 o16
 refine zq ?_
 exact ⟨_,_,_,_,rfl,(jx.t zt).as (vF (fun e=>q13 (by have:=jx.2.zero;rw [e] at this;simp at this;omega)))⟩
theorem oD (x y:Rat):Rat.divInt (x.num*(y.den:Int)+y.num*(x.den:Int)) ((x.den:Int)*(y.den:Int))=x+y:=by
 rw [Rat.add_def,Rat.normalize_eq_mkRat,←Int.natCast_mul]
 rfl
theorem oz (x y:Rat):Rat.divInt (x.num*y.num) ((x.den:Int)*(y.den:Int))=x*y:=by
 rw [Rat.mul_def,Rat.normalize_eq_mkRat,←Int.natCast_mul]
 rfl
theorem iE (x y:Rat):(x.den:Int)*(y.den:Int)≠0:=Int.mul_ne_zero (by have:=x.den_pos;omega) (by have:=y.den_pos;omega)
theorem dr (k:Nat){x:Rat}{y:Rat}(ix:UI h n sx ax lx cx x.num)(jx:UI h n dx ex fx gx (denZ x))(iy:UI h n sy ay ly cy y.num)(jy:UI h n dy ey fy gy (denZ y))(hx:Sz a x)(hy:Sz b y)(hab:a+b+1≤2496):CX (cal (k+6)) 69 [.agg #[.bool sx,.slice ax lx cx,.bool dx,.slice ex fx gx],.agg #[.bool sy,.slice ay ly cy,.bool dy,.slice ey fy gy]] h n (NQ (x+y)):=by
 obtain ⟨hxn,hxd⟩:x.num.natAbs<2^a∧(denZ x).natAbs<2^a:=⟨hx.1,hx.z⟩
 obtain ⟨hyn,hyd⟩:y.num.natAbs<2^b∧(denZ y).natAbs<2^b:=⟨hy.1,hy.z⟩
 have hxn1:=xa hxn zo
 have hxd1:=xa hxd zo
 have hyn1:=xa hyn zo
 have hyd1:=xa hyd zo
 have hxp:=x.den_pos
 have hyp:=y.den_pos
 have hxe:((x.den:Int)).natAbs<2^a:=hx.2
 have hye:((y.den:Int)).natAbs<2^b:=hy.2
 have hxe1:=xa hxe zo
 have hye1:=xa hye zo
 refine zr (fn:=Tryz.f69) R4 ?_
 refine zG ?_
 refine sB [.bool sx,.slice ax lx cx,.bool dx,.slice ex fx gx] ?_
 intro h11 p11 x11
 refine sB [.bool sy,.slice ay ly cy,.bool dy,.slice ey fy gy] ?_
 intro h12 p12 x12
 refine sA ?_
 intro h13 p13 x13
 refine zG ?_
 by_cases q14:(fx:Int)=0
 ·refine zG ?_
  by_cases q15:(fy:Int)=0
  ·refine zG ?_
   refine sC (addU _ (ix.t zt) (iy.t zt) szB szB) ?_
   rintro _ h16 n16 ⟨b16,a16,l16,c16,rfl,i16⟩ y16 x16
   refine sT #[.bool b16,.slice a16 l16 c16,.bool false,.slice none 0 0] ?_
   refine sS [.bool b16,.slice a16 l16 c16,.bool false,.slice none 0 0] ?_
   intro h17 p17 o17
   refine zq ?_
   exact ⟨_,_,_,_,_,_,_,_,rfl,(i16.t zt).as ((iY (Int.natAbs_eq_zero.1 (jx.2.zero.1 zo)) (Int.natAbs_eq_zero.1 (jy.2.zero.1 zo))).1.symm),(UI.zero _ _).as ((iY (Int.natAbs_eq_zero.1 (jx.2.zero.1 zo)) (Int.natAbs_eq_zero.1 (jy.2.zero.1 zo))).2.symm)⟩
  refine zG ?_
  refine zj [0,1,0,4,15,0,32,0,159,511,1023,0,4095,0,16383,32767,65535,131071] rfl ?_
  refine zH ?_
  refine dC (denU _ (iy.t zt) (jy.t zt)) ?_
  rintro _ h18 n18 ⟨b18,a18,l18,c18,rfl,i18⟩ y18 x18
  refine dC (mulU _ (ix.t zt) i18 szB szB) ?_
  rintro _ h19 n19 ⟨b19,a19,l19,c19,rfl,i19⟩ y19 x19
  refine zH ?_
  refine dC (denU _ (ix.t zt) (jx.t zt)) ?_
  rintro _ h20 n20 ⟨b20,a20,l20,c20,rfl,i20⟩ y20 x20
  refine dC (mulU _ (iy.t zt) i20 szB szB) ?_
  rintro _ h21 n21 ⟨b21,a21,l21,c21,rfl,i21⟩ y21 x21
  refine dC (addU _ (i19.t zt) i21 szB szB) ?_
  rintro _ h22 n22 ⟨b22,a22,l22,c22,rfl,i22⟩ y22 x22
  refine zH ?_
  refine dC (denU _ (ix.t zt) (jx.t zt)) ?_
  rintro _ h23 n23 ⟨b23,a23,l23,c23,rfl,i23⟩ y23 x23
  refine zH ?_
  refine dC (denU _ (iy.t zt) (jy.t zt)) ?_
  rintro _ h24 n24 ⟨b24,a24,l24,c24,rfl,i24⟩ y24 x24
  refine dC (mulU _ (i23.t zt) i24 szB szB) ?_
  rintro _ h25 n25 ⟨b25,a25,l25,c25,rfl,i25⟩ y25 x25
  refine dC (j6 _ (i22.t zt) i25 szB szB (iE x y) (oD x y)) ?_
  rintro _ h26 n26 ⟨b26,a26,l26,c26,d26,e26,f26,g26,rfl,i26,j26⟩ y26 x26
  refine dS [.bool b26,.slice a26 l26 c26,.bool d26,.slice e26 f26 g26] ?_
  intro h27 p27 o27
  refine zq ?_
  exact ⟨_,_,_,_,_,_,_,_,rfl,(i26.t zt),(j26.t zt)⟩
 refine zG ?_
 refine zj [0,1,0,4,15,0,32,0,159,511,1023,0,4095,0,16383,32767,65535,131071] rfl ?_
 refine zH ?_
 refine dC (denU _ (iy.t zt) (jy.t zt)) ?_
 rintro _ h28 n28 ⟨b28,a28,l28,c28,rfl,i28⟩ y28 x28
 refine dC (mulU _ (ix.t zt) i28 szB szB) ?_
 rintro _ h29 n29 ⟨b29,a29,l29,c29,rfl,i29⟩ y29 x29
 refine zH ?_
 refine dC (denU _ (ix.t zt) (jx.t zt)) ?_
 rintro _ h30 n30 ⟨b30,a30,l30,c30,rfl,i30⟩ y30 x30
 refine dC (mulU _ (iy.t zt) i30 szB szB) ?_
 rintro _ h31 n31 ⟨b31,a31,l31,c31,rfl,i31⟩ y31 x31
 refine dC (addU _ (i29.t zt) i31 szB szB) ?_
 rintro _ h32 n32 ⟨b32,a32,l32,c32,rfl,i32⟩ y32 x32
 refine zH ?_
 refine dC (denU _ (ix.t zt) (jx.t zt)) ?_
 rintro _ h33 n33 ⟨b33,a33,l33,c33,rfl,i33⟩ y33 x33
 refine zH ?_
 refine dC (denU _ (iy.t zt) (jy.t zt)) ?_
 rintro _ h34 n34 ⟨b34,a34,l34,c34,rfl,i34⟩ y34 x34
 refine dC (mulU _ (i33.t zt) i34 szB szB) ?_
 rintro _ h35 n35 ⟨b35,a35,l35,c35,rfl,i35⟩ y35 x35
 refine dC (j6 _ (i32.t zt) i35 szB szB (iE x y) (oD x y)) ?_
 rintro _ h36 n36 ⟨b36,a36,l36,c36,d36,e36,f36,g36,rfl,i36,j36⟩ y36 x36
 refine dS [.bool b36,.slice a36 l36 c36,.bool d36,.slice e36 f36 g36] ?_
 intro h37 p37 o37
 refine zq ?_
 exact ⟨_,_,_,_,_,_,_,_,rfl,(i36.t zt),(j36.t zt)⟩
theorem zax (k:Nat){x:Rat}{y:Rat}(ix:UI h n sx ax lx cx x.num)(jx:UI h n dx ex fx gx (denZ x))(iy:UI h n sy ay ly cy y.num)(jy:UI h n dy ey fy gy (denZ y))(hx:Sz a x)(hy:Sz b y)(hab:a+b+1≤2496):CX (cal (k+6)) 70 [.agg #[.bool sx,.slice ax lx cx,.bool dx,.slice ex fx gx],.agg #[.bool sy,.slice ay ly cy,.bool dy,.slice ey fy gy]] h n (NQ (x*y)):=by
 obtain ⟨hxn,hxd⟩:x.num.natAbs<2^a∧(denZ x).natAbs<2^a:=⟨hx.1,hx.z⟩
 obtain ⟨hyn,hyd⟩:y.num.natAbs<2^b∧(denZ y).natAbs<2^b:=⟨hy.1,hy.z⟩
 have hxn1:=xa hxn zo
 have hxd1:=xa hxd zo
 have hyn1:=xa hyn zo
 have hyd1:=xa hyd zo
 have hxp:=x.den_pos
 have hyp:=y.den_pos
 have hxe:((x.den:Int)).natAbs<2^a:=hx.2
 have hye:((y.den:Int)).natAbs<2^b:=hy.2
 have hxe1:=xa hxe zo
 have hye1:=xa hye zo
 refine zr (fn:=Tryz.f70) R4 ?_
 refine zG ?_
 refine sB [.bool sx,.slice ax lx cx,.bool dx,.slice ex fx gx] ?_
 intro h11 p11 x11
 refine sB [.bool sy,.slice ay ly cy,.bool dy,.slice ey fy gy] ?_
 intro h12 p12 x12
 refine sA ?_
 intro h13 p13 x13
 refine zG ?_
 by_cases q14:(fx:Int)=0
 ·refine zG ?_
  by_cases q15:(fy:Int)=0
  ·refine zG ?_
   refine sC (mulU _ (ix.t zt) (iy.t zt) szB szB) ?_
   rintro _ h16 n16 ⟨b16,a16,l16,c16,rfl,i16⟩ y16 x16
   refine sT #[.bool b16,.slice a16 l16 c16,.bool false,.slice none 0 0] ?_
   refine sS [.bool b16,.slice a16 l16 c16,.bool false,.slice none 0 0] ?_
   intro h17 p17 o17
   refine zq ?_
   exact ⟨_,_,_,_,_,_,_,_,rfl,(i16.t zt).as ((jP (Int.natAbs_eq_zero.1 (jx.2.zero.1 zo)) (Int.natAbs_eq_zero.1 (jy.2.zero.1 zo))).1.symm),(UI.zero _ _).as ((jP (Int.natAbs_eq_zero.1 (jx.2.zero.1 zo)) (Int.natAbs_eq_zero.1 (jy.2.zero.1 zo))).2.symm)⟩
  refine zG ?_
  refine zj [0,1,0,4,15,0,63,0,255,511,1023,2047] rfl ?_
  refine zH ?_
  refine dC (mulU _ (ix.t zt) (iy.t zt) szB szB) ?_
  rintro _ h18 n18 ⟨b18,a18,l18,c18,rfl,i18⟩ y18 x18
  refine zH ?_
  refine dC (denU _ (ix.t zt) (jx.t zt)) ?_
  rintro _ h19 n19 ⟨b19,a19,l19,c19,rfl,i19⟩ y19 x19
  refine zH ?_
  refine dC (denU _ (iy.t zt) (jy.t zt)) ?_
  rintro _ h20 n20 ⟨b20,a20,l20,c20,rfl,i20⟩ y20 x20
  refine dC (mulU _ (i19.t zt) i20 szB szB) ?_
  rintro _ h21 n21 ⟨b21,a21,l21,c21,rfl,i21⟩ y21 x21
  refine dC (j6 _ (i18.t zt) i21 szB szB (iE x y) (oz x y)) ?_
  rintro _ h22 n22 ⟨b22,a22,l22,c22,d22,e22,f22,g22,rfl,i22,j22⟩ y22 x22
  refine dS [.bool b22,.slice a22 l22 c22,.bool d22,.slice e22 f22 g22] ?_
  intro h23 p23 o23
  refine zq ?_
  exact ⟨_,_,_,_,_,_,_,_,rfl,(i22.t zt),(j22.t zt)⟩
 refine zG ?_
 refine zj [0,1,0,4,15,0,63,0,255,511,1023,2047] rfl ?_
 refine zH ?_
 refine dC (mulU _ (ix.t zt) (iy.t zt) szB szB) ?_
 rintro _ h24 n24 ⟨b24,a24,l24,c24,rfl,i24⟩ y24 x24
 refine zH ?_
 refine dC (denU _ (ix.t zt) (jx.t zt)) ?_
 rintro _ h25 n25 ⟨b25,a25,l25,c25,rfl,i25⟩ y25 x25
 refine zH ?_
 refine dC (denU _ (iy.t zt) (jy.t zt)) ?_
 rintro _ h26 n26 ⟨b26,a26,l26,c26,rfl,i26⟩ y26 x26
 refine dC (mulU _ (i25.t zt) i26 szB szB) ?_
 rintro _ h27 n27 ⟨b27,a27,l27,c27,rfl,i27⟩ y27 x27
 refine dC (j6 _ (i24.t zt) i27 szB szB (iE x y) (oz x y)) ?_
 rintro _ h28 n28 ⟨b28,a28,l28,c28,d28,e28,f28,g28,rfl,i28,j28⟩ y28 x28
 refine dS [.bool b28,.slice a28 l28 c28,.bool d28,.slice e28 f28 g28] ?_
 intro h29 p29 o29
 refine zq ?_
 exact ⟨_,_,_,_,_,_,_,_,rfl,(i28.t zt),(j28.t zt)⟩
theorem zh9 (k:Nat){x:Rat}(ix:UI h n sx ax lx cx x.num)(jx:UI h n dx ex fx gx (denZ x)):CX (cal (k+3)) 166 [.agg #[.bool sx,.slice ax lx cx,.bool dx,.slice ex fx gx]] h n (NQ (-x)):=by
 refine zr (fn:=Tryz.f166) R4 ?_
 refine zG ?_
 refine sB [.bool sx,.slice ax lx cx,.bool dx,.slice ex fx gx] ?_
 intro h11 p11 x11
 refine sA ?_
 intro h12 p12 x12
 refine zG ?_
 refine zj [0,1,3,0,8,31,63] rfl ?_
 refine zH ?_
 refine dC (zif _ (ix.t zt)) ?_
 rintro _ h13 n13 ⟨b13,a13,l13,c13,rfl,i13⟩ y13 x13
 refine zH ?_
 refine dT #[.bool b13,.slice a13 l13 c13,.bool dx,.slice ex fx gx] ?_
 refine dS [.bool b13,.slice a13 l13 c13,.bool dx,.slice ex fx gx] ?_
 intro h14 p14 o14
 refine zq ?_
 exact ⟨_,_,_,_,_,_,_,_,rfl,(i13.t zt).as ((Rat.neg_num x).symm),(jx.t zt).as (by unfold denZ;rw [Rat.neg_den])⟩
theorem zh8 (k:Nat){x:Rat}{y:Rat}(ix:UI h n sx ax lx cx x.num)(jx:UI h n dx ex fx gx (denZ x))(iy:UI h n sy ay ly cy y.num)(jy:UI h n dy ey fy gy (denZ y))(hx:Sz a x)(hy:Sz b y)(hab:a+b+1≤2496):CX (cal (k+7)) 129 [.agg #[.bool sx,.slice ax lx cx,.bool dx,.slice ex fx gx],.agg #[.bool sy,.slice ay ly cy,.bool dy,.slice ey fy gy]] h n (NQ (x-y)):=by
 refine zr (fn:=Tryz.f129) R4 ?_
 refine zG ?_
 refine sB [.bool sx,.slice ax lx cx,.bool dx,.slice ex fx gx] ?_
 intro h11 p11 x11
 refine sB [.bool sy,.slice ay ly cy,.bool dy,.slice ey fy gy] ?_
 intro h12 p12 x12
 refine sA ?_
 intro h13 p13 x13
 refine zG ?_
 refine zj [0,0,2,7,15] rfl ?_
 refine zH ?_
 refine dC (zh9 _ (iy.t zt) (jy.t zt)) ?_
 rintro _ h14 n14 ⟨b14,a14,l14,c14,d14,e14,f14,g14,rfl,i14,j14⟩ y14 x14
 refine dC (dr _ (ix.t zt) (jx.t zt) i14 j14 hx hy.neg hab) ?_
 rintro _ h15 n15 ⟨b15,a15,l15,c15,d15,e15,f15,g15,rfl,i15,j15⟩ y15 x15
 refine dS [.bool b15,.slice a15 l15 c15,.bool d15,.slice e15 f15 g15] ?_
 intro h16 p16 o16
 refine zq ?_
 exact ⟨_,_,_,_,_,_,_,_,rfl,(i15.t zt).as (by rw [Rat.sub_eq_add_neg]),(j15.t zt).as (by rw [Rat.sub_eq_add_neg])⟩
theorem oi (k:Nat){x:Rat}{y:Rat}(ix:UI h n sx ax lx cx x.num)(jx:UI h n dx ex fx gx (denZ x))(iy:UI h n sy ay ly cy y.num)(jy:UI h n dy ey fy gy (denZ y))(hx:Sz a x)(hy:Sz b y)(hab:a+b+1≤2496):VF (cal (k+8)) 79 [.agg #[.bool sx,.slice ax lx cx,.bool dx,.slice ex fx gx],.agg #[.bool sy,.slice ay ly cy,.bool dy,.slice ey fy gy]] h n fun v=>∃s:Int,v=.int .i64 s∧(s= -1∧x<y∨s=0∧x=y∨s=1∧y<x):=by
 refine zA (fn:=Tryz.f79) R4 ?_
 refine zG ?_
 refine sB [.bool sx,.slice ax lx cx,.bool dx,.slice ex fx gx] ?_
 intro h11 p11 x11
 refine sB [.bool sy,.slice ay ly cy,.bool dy,.slice ey fy gy] ?_
 intro h12 p12 x12
 refine zG ?_
 refine sC (zh8 _ (ix.t zt) (jx.t zt) (iy.t zt) (jy.t zt) hx hy hab) ?_
 rintro _ h13 n13 ⟨b13,a13,l13,c13,d13,e13,f13,g13,rfl,i13,j13⟩ y13 x13
 refine sC (wZ _ i13 j13) ?_
 rintro _ h14 n14 ⟨s14,rfl,q14⟩ y14 x14
 rcases q14 with ⟨rfl,q14⟩|⟨rfl,q14⟩|⟨rfl,q14⟩
 ·refine zf ?_
  exact ⟨_,rfl,.inl ⟨rfl,(lQ x y).1 q14⟩⟩
 ·refine zf ?_
  exact ⟨_,rfl,.inr (.inl ⟨rfl,(lQ x y).2.1 q14⟩)⟩
 refine zf ?_
 exact ⟨_,rfl,.inr (.inr ⟨rfl,(lQ x y).2.2 q14⟩)⟩
theorem numU (k:Nat)(h:HF)(n:Nat)(s:List UInt8)(hs:s.length<1000000):CX (cal (k+7)) 71 [.string ⟨⟨s⟩⟩] h n (NQ (zB s)):=by
 refine zr (fn:=Tryz.f71) R4 ?_
 refine zG ?_
 refine sA ?_
 intro h11 p11 x11
 refine zG ?_
 refine sC (dk _ _ _ s hs) ?_
 rintro _ h12 n12 ⟨b12,a12,l12,c12,d12,e12,f12,g12,ok12,q12,rfl,i12,j12,m12,z12⟩ y12 x12
 cases ok12
 ·refine zG ?_
  refine sA ?_
  intro h13 p13 x13
  refine sS [.bool b12,.slice a12 l12 c12,.bool d12,.slice e12 f12 g12] ?_
  intro h14 p14 o14
  refine zG ?_
  refine sT #[.bool false,.slice none 0 0,.bool false,.slice none 0 0] ?_
  refine sS [.bool false,.slice none 0 0,.bool false,.slice none 0 0] ?_
  intro h15 p15 o15
  refine zq ?_
  exact (wB (fun hq=>by cases z12 hq)).symm▸NQ.zero _ _
 refine zG ?_
 refine sA ?_
 intro h16 p16 x16
 refine sS [.bool b12,.slice a12 l12 c12,.bool d12,.slice e12 f12 g12] ?_
 intro h17 p17 o17
 refine zG ?_
 refine sS [.bool b12,.slice a12 l12 c12,.bool d12,.slice e12 f12 g12] ?_
 intro h18 p18 o18
 refine zq ?_
 exact (qh (m12 rfl)).symm▸⟨_,_,_,_,_,_,_,_,rfl,(i12.t zt),(j12.t zt)⟩
end
structure At (h:HF)(b o:Nat)(c:List Value):Prop where
 ex:∃x cs,h b=some x∧x.cells=some cs∧o+c.length≤cs.length∧(cs.drop o).take c.length=c
theorem At.ext {h h':HF}{n o:Nat}(a:At h b o c)(x:Ext n h h')(hb:b<3*n):At h' b o c:=by
 obtain ⟨y,cs,h1,h2,h3,h4⟩:=a.ex
 exact ⟨y,cs,(x b hb).trans h1,h2,h3,h4⟩
theorem At.ld {h:HF}{o:Nat}{c':List Value}{sz:Nat}(a:At h b o c)(k:Nat)(ha:GL.isAgg env ty=some true)(hi:env.inf ty=some (sz,bt,z))(hl:k+sz≤c.length)(hc:(c.drop k).take sz=c'):yn env ty h ⟨b,o+k,none⟩=some (.agg c'.toArray):=by
 obtain ⟨y,cs,h1,h2,h3,h4⟩:=a.ex
 refine zL ⟨ha,hi⟩ h1 h2 zo ?_
 rw [←hc,←h4,List.drop_take,List.take_take,List.drop_drop]
 congr 1
 omega
theorem At.ld1 {h:HF}{o:Nat}(a:At h b o c)(k:Nat)(ha:GL.isAgg env ty=some false)(hc:c[k]?=some v):yn env ty h ⟨b,o+k,none⟩=some v:=by
 obtain ⟨y,cs,h1,h2,h3,h4⟩:=a.ex
 exact z8 ha h1 ⟨h2,(uD h4 hc)⟩
inductive Rec {D:Type} (sz:Nat) (P:List Value→D→Prop):List Value→List D→Prop
 |nil:Rec sz P [] []
 |cons {c cs:List Value} {d:D} {ds:List D} (hl:c.length=sz) (hp:P c d) (hr:Rec sz P cs ds):Rec sz P (c++cs) (d::ds)
section
variable {D:Type}{sz:Nat}{P P':List Value→D→Prop}
theorem Rec.len {ds:List D}(r:Rec sz P cs ds):cs.length=ds.length*sz:=by
 induction r with
 |nil=>simp
 |cons hl hp hr ih=>rw [List.length_append,ih,hl,List.length_cons,Nat.succ_mul];omega
theorem Rec.mono {ds:List D}(r:Rec sz P cs ds)(hP:∀c d,P c d→P' c d):Rec sz P' cs ds:=by
 induction r with
 |nil=>exact .nil
 |cons hl hp hr ih=>exact .cons hl (hP _ _ hp) ih
theorem Rec.snoc {ds:List D}{d:D}(r:Rec sz P cs ds)(hl:c.length=sz)(hp:P c d):Rec sz P (cs++c) (ds++[d]):=by
 induction r with
 |nil=>
  have:=Rec.cons hl hp (Rec.nil (P:=P) (sz:=sz))
  rw [List.append_nil] at this
  exact this
 |cons hl2 hp2 hr ih=>rw [List.append_assoc];exact .cons hl2 hp2 ih
theorem Rec.get {ds:List D}{d:D}(r:Rec sz P cs ds):∀{j:Nat},ds[j]?=some d→∃c,c.length=sz∧P c d∧(cs.drop (j*sz)).take sz=c∧j*sz+sz≤cs.length:=by
 induction r with
 |nil=>intro j hj;simp at hj
 | @cons c cs d2 ds hl hp hr ih=>
  intro j hj
  cases j with
  |zero=>
   simp at hj
   subst hj
   refine ⟨c,hl,hp,?_,by rw [List.length_append];omega⟩
   rw [Nat.zero_mul,List.drop_zero,←hl,List.take_left]
  |succ j=>
   rw [List.getElem?_cons_succ] at hj
   obtain ⟨c2,h1,h2,h3,h4⟩:=ih hj
   refine ⟨c2,h1,h2,?_,by rw [List.length_append,Nat.succ_mul];omega⟩
   rw [←h3,List.drop_append,List.drop_eq_nil_of_le (by rw [hl,Nat.succ_mul];omega),List.nil_append,Nat.succ_mul,hl,Nat.add_sub_cancel]
end
def RS {D:Type}(sz:Nat)(P:List Value→D→HF→Nat→Prop)(h:HF)(n:Nat)(v:Value)(l:List D):Prop:=∃cells,Sl h n sz v cells∧Rec sz (fun c d=>P c d h n) cells l
structure Stay {D:Type}(P:List Value→D→HF→Nat→Prop):Prop where
 go:∀c d h h' n n',P c d h n→Ext n h h'→n≤n'→P c d h' n'
section
variable {D:Type}{sz:Nat}{P:List Value→D→HF→Nat→Prop}{h h':HF}{n n':Nat}
theorem RS.ext' (hP:Stay P){l:List D}(r:RS sz P h n v l)(x:Ext n h h')(hn:n≤n'):RS sz P h' n' v l:=by
 obtain ⟨cells,h1,h2⟩:=r
 exact ⟨cells,h1.ext x hn,h2.mono fun c d hp=>hP.go c d _ _ _ _ hp x hn⟩
theorem RS.len' (hsz:0<sz){a:Option Addr}{len:Nat}{l:List D}(r:RS sz P h n (.slice a len cap) l):len=l.length:=by
 obtain ⟨cells,h1,h2⟩:=r
 obtain ⟨a',l',c',e,hl⟩:=h1.len
 injection e with e1 e2 e3
 subst e2
 rw [h2.len] at hl
 exact (Nat.eq_of_mul_eq_mul_right hsz hl).symm
theorem RS.at' (hsz:0<sz){a:Option Addr}{len:Nat}{l:List D}{d:D}(r:RS sz P h n (.slice a len cap) l)(hj:l[j]?=some d):∃b off c,a=some ⟨b,off,none⟩∧b<3*n∧j<len∧At h b (off+j*sz) c∧c.length=sz∧P c d h n:=by
 have hlen:=r.len' hsz
 obtain ⟨cells,h1,h2⟩:=r
 have hjl:=(List.getElem?_eq_some_iff.1 hj).1
 obtain ⟨b,off,x,cs,rfl,hb,hx,hc,hcap,hle,he⟩:=h1.inv zo
 obtain ⟨c,e1,e2,e3,e4⟩:=h2.get hj
 refine ⟨b,off,c,rfl,hb,zo,⟨x,cs,hx,hc,?_,?_⟩,e1,e2⟩
 ·have:=h2.len
  rw [←hlen] at this
  omega
 rw [e1,←e3,←he,List.drop_take,List.take_take,List.drop_drop]
 have:=h2.len
 rw [←hlen] at this
 congr 1
 omega
end
theorem yy {h:HF}{n:Nat}{a:Option Addr}{len:Nat}{s:List UInt8}(r:Sl h n 1 (.slice a len cap) (strs S))(hj:S[j]?=some s):∃b off,a=some ⟨b,off,none⟩∧b<3*n∧j<len∧At h b (off+j*1) [.string ⟨⟨s⟩⟩]:=by
 have hjl:=(List.getElem?_eq_some_iff.1 hj).1
 have hlen:=zv r
 obtain ⟨b,off,x,cs,rfl,hb,hx,hc,hcap,hle,he⟩:=r.inv zo
 refine ⟨b,off,rfl,hb,zo,⟨x,cs,hx,hc,by show off+j*1+1≤_;omega,?_⟩⟩
 show (cs.drop (off+j*1)).take 1=_
 have h1:(strs S)[j]?=some (.string ⟨⟨s⟩⟩):=by rw [strs,List.getElem?_map,hj];rfl
 have h2:=uD he h1
 rw [Nat.mul_one]
 have h3:off+j<cs.length:=zo
 rw [List.drop_eq_getElem_cons h3]
 rw [List.getElem?_eq_getElem h3] at h2
 injection h2 with h2
 rw [h2]
 rfl
def ratP (c:List Value)(q:Rat)(h:HF)(n:Nat):Prop:=∃b a l k d e f g,c=[.bool b,.slice a l k,.bool d,.slice e f g]∧IW h n b a l k q.num∧IW h n d e f g (denZ q)
theorem ratP.stay:Stay ratP:=⟨fun _ _ _ _ _ _ ⟨b,a,l,k,d,e,f,g,e1,i,j⟩ x hn=>⟨b,a,l,k,d,e,f,g,e1,i.ext x hn,j.ext x hn⟩⟩
def numP (c:List Value)(q:Rat)(h:HF)(n:Nat):Prop:=∃b a l k d e f g,c=[.bool b,.slice a l k,.bool d,.slice e f g]∧UI h n b a l k q.num∧UI h n d e f g (denZ q)
theorem numP.stay:Stay numP:=⟨fun _ _ _ _ _ _ ⟨b,a,l,k,d,e,f,g,e1,i,j⟩ x hn=>⟨b,a,l,k,d,e,f,g,e1,i.ext x hn,j.ext x hn⟩⟩
def QS (h:HF)(n:Nat)(v:Value)(l:List Rat):Prop:=RS 4 ratP h n v l
def NS (h:HF)(n:Nat)(v:Value)(l:List Rat):Prop:=RS 4 numP h n v l
section
variable {h h':HF}{n n':Nat}
theorem QS.ext {l:List Rat}(r:QS h n v l)(x:Ext n h h')(hn:n≤n'):QS h' n' v l:=RS.ext' ratP.stay r x hn
theorem NS.ext {l:List Rat}(r:NS h n v l)(x:Ext n h h')(hn:n≤n'):NS h' n' v l:=RS.ext' numP.stay r x hn
theorem QS.len {a:Option Addr}{len:Nat}{l:List Rat}(r:QS h n (.slice a len cap) l):len=l.length:=RS.len' zd r
theorem NS.len {a:Option Addr}{len:Nat}{l:List Rat}(r:NS h n (.slice a len cap) l):len=l.length:=RS.len' zd r
theorem QS.at {a:Option Addr}{len:Nat}{l:List Rat}(r:QS h n (.slice a len cap) l)(hj:l[j]?=some q):∃bb off b a2 l2 k d e f g,a=some ⟨bb,off,none⟩∧bb<3*n∧j<len∧At h bb (off+j*4) [.bool b,.slice a2 l2 k,.bool d,.slice e f g]∧IW h n b a2 l2 k q.num∧IW h n d e f g (denZ q):=by
 obtain ⟨bb,off,c,h1,h2,h3,h4,_,b,a2,l2,k,d,e,f,g,rfl,i,j⟩:=RS.at' zd r hj
 exact ⟨bb,off,b,a2,l2,k,d,e,f,g,h1,h2,h3,h4,i,j⟩
theorem NS.at {a:Option Addr}{len:Nat}{l:List Rat}(r:NS h n (.slice a len cap) l)(hj:l[j]?=some q):∃bb off b a2 l2 k d e f g,a=some ⟨bb,off,none⟩∧bb<3*n∧j<len∧At h bb (off+j*4) [.bool b,.slice a2 l2 k,.bool d,.slice e f g]∧UI h n b a2 l2 k q.num∧UI h n d e f g (denZ q):=by
 obtain ⟨bb,off,c,h1,h2,h3,h4,_,b,a2,l2,k,d,e,f,g,rfl,i,j⟩:=RS.at' zd r hj
 exact ⟨bb,off,b,a2,l2,k,d,e,f,g,h1,h2,h3,h4,i,j⟩
end
section
variable {X:CtxF}{ops r:List Oper}{t:TF}{h:HF}{n:Nat}{w:List Nat}{Q:SV→Prop}{o:Oper}{d:Tmp}
theorem fW {x i:Operand}{len sz:Nat}(hw:zg ops t o=true∧o.dst=some d∧zm X.nt (some d)=true∧o.op=.indexAddr ty x i∧X.E.und ty=some (.slice e)∧X.E.inf e=some (sz,bt,z)∧evF t x=.slice aq len cap∧evF t i=.int ik (j:Int)∧aq=some ⟨b,off,none⟩)(hr:j<len)(k:EO X ops r ⟨upd t d (.pointer (some ⟨b,off+j*sz,none⟩)),h,n,w⟩ Q):EO X ops (o::r) ⟨t,h,n,w⟩ Q:=by
 obtain ⟨hw,hd,hn,ho,hu,hi,hx,hj,ha⟩:=hw
 subst ha
 exact tC ⟨hw,hd,hn,ho,hu,hi,hx,hj⟩ zo k
end
section
variable {X:CtxF}{ops r:List Oper}{ms:List Nat}{i m:Nat}{t:TF}{h:HF}{n:Nat}{w:List Nat}{al ld:List (Nat×Nat)}{ef:List (Nat×HF×List Nat)}{Q:SV→Prop}{o:Oper}{d:Tmp}
theorem zcl {x:Operand}{len sz:Nat}(hw:zg ops t o=true)(hd:o.dst=some d)(hn:zm X.nt (some d)=true)(ho:o.op=.indexAddr ty x y)(hu:X.E.und ty=some (.slice e))(hi:X.E.inf e=some (sz,bt,z))
  (hx:evF t x=.slice aq len cap)(hj:evF t y=.int ik (j:Int))(ha:aq=some ⟨b,off,none⟩)(hr:j<len)(k:ED X ops r ms (i+1) ⟨⟨upd t d (.pointer (some ⟨b,off+j*sz,none⟩)),h,n,w⟩,al,ld,ef⟩ Q):ED X ops (o::r) (m::ms) i ⟨⟨t,h,n,w⟩,al,ld,ef⟩ Q:=by
 subst ha
 refine yF hw hd hn (by rw [ho];rfl) ?_ k
 have h1:(0:Int)≤(j:Int)∧(j:Int)<(len:Int):=zo
 rw [ho]
 show yX X.E ty (evF t x) (evF t y)=_
 rw [hx,hj]
 simp only [yX,hu,hi,if_pos h1,vi,Int.toNat_natCast]
end
theorem QS.x {h h':HF}{n n':Nat}{l:List Rat}(r:QS h n v l)(t:Tx n h n' h'):QS h' n' v l:=r.ext t.2 t.1
theorem NS.x {h h':HF}{n n':Nat}{l:List Rat}(r:NS h n v l)(t:Tx n h n' h'):NS h' n' v l:=r.ext t.2 t.1
theorem At.x {h h':HF}{n n' o:Nat}(a:At h b o c)(t:Tx n h n' h')(hb:b<3*n):At h' b o c:=a.ext t.2 hb
theorem At.lG {h:HF}{o sz:Nat}{r:List Value}(L:List Value)(a:At h b o c)(ha:GL.isAgg env ty=some true)(hi:env.inf ty=some (sz,bt,z))(hc:c.drop k=L++r)(hl:L.length=sz)(h1:0<L.length:=by exact Nat.succ_pos _):yn env ty h ⟨b,o+k,none⟩=some (.agg L.toArray):=by
 have h2:=congrArg List.length hc
 rw [List.length_drop,List.length_append] at h2
 exact a.ld k ha hi zo (c':=L) (by rw [hc,←hl,List.take_left])
theorem At.l1 {h:HF}{o:Nat}{r:List Value}(a:At h b o c)(ha:GL.isAgg env ty=some true)(hi:env.inf ty=some (1,bt,z))(hc:c.drop k=x1::r):yn env ty h ⟨b,o+k,none⟩=some (.agg #[x1]):=a.lG [x1] ha hi hc rfl
theorem At.l2 {h:HF}{o:Nat}{r:List Value}(a:At h b o c)(ha:GL.isAgg env ty=some true)(hi:env.inf ty=some (2,bt,z))(hc:c.drop k=x1::x2::r):yn env ty h ⟨b,o+k,none⟩=some (.agg #[x1,x2]):=a.lG [x1,x2] ha hi hc rfl
theorem At.l3 {h:HF}{o:Nat}{r:List Value}(a:At h b o c)(ha:GL.isAgg env ty=some true)(hi:env.inf ty=some (3,bt,z))(hc:c.drop k=x1::x2::x3::r):yn env ty h ⟨b,o+k,none⟩=some (.agg #[x1,x2,x3]):=a.lG [x1,x2,x3] ha hi hc rfl
theorem At.l4 {h:HF}{o:Nat}{r:List Value}(a:At h b o c)(ha:GL.isAgg env ty=some true)(hi:env.inf ty=some (4,bt,z))(hc:c.drop k=x1::x2::x3::x4::r):yn env ty h ⟨b,o+k,none⟩=some (.agg #[x1,x2,x3,x4]):=a.lG [x1,x2,x3,x4] ha hi hc rfl
theorem At.l5 {h:HF}{o:Nat}{r:List Value}(a:At h b o c)(ha:GL.isAgg env ty=some true)(hi:env.inf ty=some (5,bt,z))(hc:c.drop k=x1::x2::x3::x4::x5::r):yn env ty h ⟨b,o+k,none⟩=some (.agg #[x1,x2,x3,x4,x5]):=a.lG [x1,x2,x3,x4,x5] ha hi hc rfl
theorem At.l10 {h:HF}{o:Nat}{r:List Value}(a:At h b o c)(ha:GL.isAgg env ty=some true)(hi:env.inf ty=some (10,bt,z))(hc:c.drop k=x1::x2::x3::x4::x5::x6::x7::x8::x9::x10::r):yn env ty h ⟨b,o+k,none⟩=some (.agg #[x1,x2,x3,x4,x5,x6,x7,x8,x9,x10]):=a.lG [x1,x2,x3,x4,x5,x6,x7,x8,x9,x10] ha hi hc rfl
theorem At.l11 {h:HF}{o:Nat}{x11:Value}{r:List Value}(a:At h b o c)(ha:GL.isAgg env ty=some true)(hi:env.inf ty=some (11,bt,z))(hc:c.drop k=x1::x2::x3::x4::x5::x6::x7::x8::x9::x10::x11::r):yn env ty h ⟨b,o+k,none⟩=some (.agg #[x1,x2,x3,x4,x5,x6,x7,x8,x9,x10,x11]):=a.lG [x1,x2,x3,x4,x5,x6,x7,x8,x9,x10,x11] ha hi hc rfl
section
variable {X:CtxF}{ops r:List Oper}{t:TF}{h:HF}{n:Nat}{w:List Nat}{Q:SV→Prop}{o:Oper}{d:Tmp}
theorem sI {x0 i0:Operand}{len sz:Nat}(ha:aq=some ⟨b,off,none⟩)(hr:j<len)(k:EO X ops r ⟨upd t d (.pointer (some ⟨b,off+j*sz,none⟩)),h,n,w⟩ Q)(hw:zg ops t o=true:=by exact rfl)(hd:o.dst=some d:=by exact rfl)(hn:zm X.nt (some d)=true:=by exact rfl)(ho:o.op=.indexAddr ty x0 i0:=by exact rfl)(hu:X.E.und ty=some (.slice e):=by exact rfl)(hi:X.E.inf e=some (sz,bt,z):=by exact rfl)(hx:evF t x0=.slice aq len cap:=by exact rfl)(hj:evF t i0=.int ik (j:Int):=by exact rfl):EO X ops (o::r) ⟨t,h,n,w⟩ Q:=fW ⟨hw,hd,hn,ho,hu,hi,hx,hj,ha⟩ hr k
theorem sL {x0:Operand}{o0:Nat}(a:At h0 b o0 c)(hb:b<3*n0)(k0:Nat)(k:EO X ops r ⟨upd t d v,h,n,w⟩ Q)(hw:zg ops t o=true:=by exact rfl)(hd:o.dst=some d:=by exact rfl)(hn:zm X.nt (some d)=true:=by exact rfl)(ho:o.op=.load ty x0:=by exact rfl)(hx:evF t x0=.pointer (some ⟨b,o0+k0,none⟩):=by exact rfl)(tx:Tx n0 h0 n h:=by exact zx)(hv:At h b o0 c→yn X.E ty h ⟨b,o0+k0,none⟩=some v:=by intro a;first|exact a.ld1 _ rfl rfl|exact a.l1 rfl rfl rfl|exact a.l2 rfl rfl rfl|exact a.l3 rfl rfl rfl|exact a.l4 rfl rfl rfl|exact a.l5 rfl rfl rfl|exact a.l10 rfl rfl rfl|exact a.l11 rfl rfl rfl):EO X ops (o::r) ⟨t,h,n,w⟩ Q:=zK ⟨hw,hd,hn,ho,hx⟩ (hv (a.x tx hb)) k
end
section
variable {X:CtxF}{ops r:List Oper}{ms:List Nat}{i m:Nat}{t:TF}{h:HF}{n:Nat}{w:List Nat}{al ld:List (Nat×Nat)}{ef:List (Nat×HF×List Nat)}{Q:SV→Prop}{o:Oper}{d:Tmp}
theorem dI {x0 i0:Operand}{len sz:Nat}(ha:aq=some ⟨b,off,none⟩)(hr:j<len)(k:ED X ops r ms (i+1) ⟨⟨upd t d (.pointer (some ⟨b,off+j*sz,none⟩)),h,n,w⟩,al,ld,ef⟩ Q)(hw:zg ops t o=true:=by exact rfl)(hd:o.dst=some d:=by exact rfl)(hn:zm X.nt (some d)=true:=by exact rfl)(ho:o.op=.indexAddr ty x0 i0:=by exact rfl)(hu:X.E.und ty=some (.slice e):=by exact rfl)(hi:X.E.inf e=some (sz,bt,z):=by exact rfl)(hx:evF t x0=.slice aq len cap:=by exact rfl)(hj:evF t i0=.int ik (j:Int):=by exact rfl):ED X ops (o::r) (m::ms) i ⟨⟨t,h,n,w⟩,al,ld,ef⟩ Q:=zcl hw hd hn ho hu hi hx hj ha hr k
theorem dL {x0:Operand}{n3 o0:Nat}(a:At h0 b o0 c)(hb:b<3*n0)(k0:Nat)(k:ED X ops r ms (i+1) ⟨⟨upd t d v,h,n,w⟩,al,(i,b)::ld,ef⟩ Q)(hw:zg ops t o=true:=by exact rfl)(hd:o.dst=some d:=by exact rfl)(hn:zm X.nt (some d)=true:=by exact rfl)(ho:o.op=.load ty x0:=by exact rfl)(hx:evF t x0=.pointer (some ⟨b,o0+k0,none⟩):=by exact rfl){g:HF}(hr:ws m ef i h=(u,g):=by exact rfl)(tx:Tx n0 h0 n3 g:=by exact zx)(hv:At g b o0 c→yn X.E ty g ⟨b,o0+k0,none⟩=some v:=by intro a;first|exact a.ld1 _ rfl rfl|exact a.l1 rfl rfl rfl|exact a.l2 rfl rfl rfl|exact a.l3 rfl rfl rfl|exact a.l4 rfl rfl rfl|exact a.l5 rfl rfl rfl|exact a.l10 rfl rfl rfl|exact a.l11 rfl rfl rfl)(h1:wJ u b ef=true:=by exact rfl)(h2:rf m b al=true:=by exact rfl):ED X ops (o::r) (m::ms) i ⟨⟨t,h,n,w⟩,al,ld,ef⟩ Q:=yf ⟨hw,hd,hn,ho,hx,hr⟩ (hv (a.x tx hb)) ⟨h1,h2⟩ k
end
end Go.Proofs.YtlmbghgklnmlkaaGreatDoor
