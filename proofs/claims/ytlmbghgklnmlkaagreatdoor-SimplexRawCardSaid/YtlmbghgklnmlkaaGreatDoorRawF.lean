import Derived.Below
import Derived.Test.YtlmbghgklnmlkaaGreatDoorRows
import Derived.ChangeSame
import Derived.ChangeVars
import Derived.ChangeSlices
import Derived.JoinedOf
import Derived.RowKit
import Derived.RowKitTokens
import Derived.LaidLaws
import Derived.Carry
import Derived.Handed
import Derived.Deep.Slices
import Derived.Test.YtlmbghgklnmlkaaGreatDoorTie
import Derived.Test.YtlmbghgklnmlkaaGreatDoorCards
import Derived.Test.YtlmbghgklnmlkaaGreatDoorRawE
set_option linter.unusedVariables false
set_option linter.unusedSimpArgs false
namespace Go.Proofs.YtlmbghgklnmlkaaGreatDoor
open Go Go.GL
section
set_option maxHeartbeats 4000000
variable {B V b bt bytes cx j l len lo lx n' n0 s sz:Nat}{e eB sT ty xT:TypeId}{v v0 z:Value}{c cs:List Value}{C L T W:List Nat}{h' h0:HF}{x:Operand}{ik':IntKind}{ji:Int}{ax:Option Addr}
theorem Gro.inv {h:HF}{n:Nat}(g:Gro h lo n e 1 v len c)(hl:len≠0):∃b,v=.slice (some ⟨b,0,none⟩) len len∧3*lo≤b∧b<3*n∧h b=some (.row c e)∧gro b=true:=by
 cases g with
 |nil=>exact absurd rfl hl
 |at_ hg hlo hb hr hl ho=>exact ⟨_,rfl,hlo,hb,hr,hg⟩
theorem Gro.low {n o c:Nat}{h:HF}{C:List Value}(g:Gro h lo n e sz v len C)(hv:v=.slice (some ⟨b,o,none⟩) l c):3*lo≤b:=by
 cases g with
 |nil=>cases hv
 |at_ hg hlo hb hr hl ho=>cases hv;exact hlo
def CB:Nat:=10000000000000000000
theorem cU {d:Nat}(hL:WdD L)(hl:L.length≤30)(hV:wv L=d+CB^C.length*V)(h0:V≠0):C.length≤30:=by
 apply Classical.byContradiction
 intro hc
 have h1:CB^31≤CB^C.length:=Nat.pow_le_pow_right zd zo
 have h2:=Nat.le_mul_of_pos_right (CB^C.length) (Nat.pos_of_ne_zero h0)
 have h3:=wJ hL
 have h4:18446744073709551616^L.length≤18446744073709551616^30:=Nat.pow_le_pow_right zd hl
 have h5:18446744073709551616^30≤CB^31:=by decide+kernel
 omega
structure TxI (n0:Nat)(v0:Value)(hL:HF)(nL B:Nat)(eB:TypeId)(h:HF)(n:Nat)(w:List Nat)(a:Option Addr)(T:List Nat):Prop where
 hn:nL≤n
 g:GroT h n (.slice a T.length T.length) T
 or:Value.slice a T.length T.length=v0∨yi nL (.slice a T.length T.length)
 hw:∀b∈w,fh v0 b
 fr:∀b,b<3*nL→b≠B→¬fh v0 b→h b=hL b
 buf:∃c,h B=some (.row c eB)∧c.length=20
theorem TxI.ext {hL:HF}{nL:Nat}{h:HF}{n:Nat}{w:List Nat}{a:Option Addr}(t:TxI n0 v0 hL nL B eB h n w a T)(x:Ext n h h')(hn:n≤n')(hB:B<3*nL):TxI n0 v0 hL nL B eB h' n' w a T:=by
 have h1:=t.hn
 obtain ⟨c,h2,h3⟩:=t.buf
 exact ⟨zo,t.g.ext x hn,t.or,t.hw,fun b hb hne hv=>(x b zo).trans (t.fr b hb hne hv),c,(x B zo).trans h2,h3⟩
theorem TxI.bufs {hL:HF}{nL:Nat}{h:HF}{n:Nat}{w:List Nat}{a:Option Addr}{c:List Nat}(t:TxI n0 v0 hL nL B eB h n w a T)(hn:n≤n')(hB:B<3*nL)(hgB:gro B=false)(ho:∀b,b<3*n→b≠B→h' b=h b)(hr:h' B=some (.row cs eB))(hc:cs.length=20):TxI n0 v0 hL nL B eB h' n' w a T:=by
 have h1:=t.hn
 refine ⟨zo,?_,t.or,t.hw,fun b hb hne hv=>(ho b zo hne).trans (t.fr b hb hne hv),cs,hr,hc⟩
 have g1:GroT h' n (.slice a T.length T.length) T:=t.g.same fun b _ hb hg=>ho b hb fun e=>by rw [e,hgB] at hg;cases hg
 exact g1.ext (Ext.refl n h') hn
section
variable {X:CtxF}{ops r:List Oper}{t:TF}{h:HF}{n:Nat}{w:List Nat}{Q:SV→Prop}{o:Oper}{d:Tmp}
theorem fP {s:Operand}{hL:HF}{nL:Nat}{m:Nat}{a:Option Addr}{new:List Nat}(hw:zg ops t o=true)(hd:o.dst=some d)(hn:zl X.nt (some d)=true)(ho:o.op=.call {callee:=.builtin .append,args:=#[s,x],argTypes:=#[sT,xT]})(hxT:(match X.E.und xT with|some (.int _)=>false|none=>false|_=>true)=true)
  (hu:X.E.und sT=some (.slice e))(he:e=5)(hi:X.E.inf e=some (1,bytes,z))(hz:(zk z).length=1)(h1:1≤bytes)(hs:evF t s=.slice a T.length T.length)(hx:argS h 1 (evF t x) m (u8s new))(hm:1≤m)(hl:new.length=m)(hb:(T.length+m)*bytes≤1099511627776)(tx:TxI X.n0 v0 hL nL B eB h n w a T)(hB:B<3*nL)(hgB:gro B=false)(h0:X.n0≤nL)
  (k:∀a' h' w',TxI X.n0 v0 hL nL B eB h' (n+1) w' a' (T++new)→h' B=h B→EO X ops r ⟨upd t d (.slice a' (T++new).length (T++new).length),h',n+1,w'⟩ Q):EO X ops (o::r) ⟨t,h,n,w⟩ Q:=by
 obtain ⟨v',h',W,h2,h3,h4,h5,h6⟩:=pb hu he hi hz h1 tx.g hx hm hl hb
 obtain ⟨a',rfl⟩:=h3.shape
 have hn1:=tx.hn
 have hvb:∀b,b<3*nL→¬fh v0 b→∀o l c,Value.slice a T.length T.length≠.slice (some ⟨b,o,none⟩) l c:=fun b hb hv o l c e2=>by
  rcases tx.or with h7|h7
  ·exact hv ⟨o,l,c,h7▸e2⟩
  rw [e2] at h7;have h7:3*nL≤b:=h7;omega
 have hBv:h' B=h B:=h4 B zo fun o l c e2=>by have:=(tx.g.blk e2).1;rw [hgB] at this;cases this
 refine xm hw hd hn ho hxT (by rw [hs];exact h2) (k a' h' _ ⟨zo,h3,.inr (h6.mono hn1),fun b hb=>?_,fun b hb hne hv=>(h4 b zo (hvb b hb hv)).trans (tx.fr b hb hne hv),?_⟩ hBv)
 ·rcases xr.1 hb with h|⟨h,h3⟩
  ·exact tx.hw b h
  obtain ⟨o,l,c,e2⟩:=h5 b h
  rcases tx.or with h4|h4
  ·exact ⟨o,l,c,h4▸e2⟩
  rw [e2] at h4;have h4:3*nL≤b:=h4;omega
 obtain ⟨c,q1,q2⟩:=tx.buf
 exact ⟨c,hBv.trans q1,q2⟩
end
theorem TxI.as {hL:HF}{nL:Nat}{h:HF}{n:Nat}{w:List Nat}{a:Option Addr}(t:TxI n0 v0 hL nL B eB h n w a T)(x:Ext n0 h0 hL)(h1:n0≤nL)(hB:3*n0≤B):AS h0 n0 v0 h n w (.slice a T.length T.length) T:=by
 refine ⟨by have:=t.hn;omega,fun b hb hne=>(t.fr b zo zo fun ⟨o,l,c,e⟩=>hne o l c e).trans (x b hb),t.hw,t.g,?_⟩
 rcases t.or with h|h
 ·exact .inl h
 exact .inr (h.mono h1)
theorem G_fr {h:HF}(hG:GK.G h)(hf:∀b,b<60→gro b=false→h' b=h b):GK.G h':=by
 obtain ⟨g1,g2,g3⟩:=hG
 exact ⟨(hf _ zo rfl).trans g1,(hf _ zo rfl).trans g2,(hf _ zo rfl).trans g3⟩
theorem fB {h:HF}{S:List Nat}(hr:h b=some (.row (u64s S) e))(hj:S[j]?=some s):At h b (0+j*1) [.int .u64 (s:Int)]:=by
 have hjl:=(List.getElem?_eq_some_iff.1 hj).1
 refine ⟨_,_,hr,rfl,by show 0+j*1+1≤_;rw [zL];omega,?_⟩
 show ((u64s S).drop (0+j*1)).take 1=_
 rw [Nat.zero_add,Nat.mul_one,tT,List.drop_eq_getElem_cons hjl,(List.getElem?_eq_some_iff.1 hj).2]
 rfl
def oj (C:List Nat)(m:Nat):List Nat:=if m=C.length then [] else decN (dv CB (C.drop m))
theorem zef {m c:Nat}(h:C[m]?=some c):dv CB (C.drop m)=c+CB*dv CB (C.drop (m+1)):=by
 have hl:=(List.getElem?_eq_some_iff.1 h).1
 rw [List.drop_eq_getElem_cons hl,(List.getElem?_eq_some_iff.1 h).2]
 rfl
theorem zee {C':List Nat}{cl:Nat}(hC:C=C'++[cl])(h0:cl≠0){m:Nat}(hm:m<C.length):dv CB (C.drop m)≠0:=by
 rw [hC,List.drop_append_of_le_length (by rw [hC,List.length_append] at hm;simp at hm;omega),xD]
 show _+CB^_*(cl+CB*0)≠0
 have:0<CB^(C'.drop m).length*(cl+CB*0):=Nat.mul_pos (Nat.pow_pos zd) zo
 omega
theorem iI {C':List Nat}{cl m c:Nat}(hC:C=C'++[cl])(h0:cl≠0)(hc:C[m]?=some c)(hb:c<CB):oj C m=oj C (m+1)++(List.replicate ((if m+1=C.length then (decN c).length else 19)-(decN c).length) 48++decN c):=by
 have hl:=(List.getElem?_eq_some_iff.1 hc).1
 unfold oj
 rw [if_neg zo,zef hc]
 by_cases he:m+1=C.length
 ·rw [if_pos he,if_pos he,he,List.drop_length,Nat.sub_self]
  show decN (c+CB*0)=_
  rw [Nat.mul_zero,Nat.add_zero]
  rfl
 rw [if_neg he,if_neg he]
 exact gK hb (zee hC h0 zo)
section
variable {X:CtxF}{ops r:List Oper}{ms:List Nat}{i m:Nat}{t:TF}{h:HF}{n:Nat}{w:List Nat}{al ld:List (Nat×Nat)}{ef:List (Nat×HF×List Nat)}{Q:SV→Prop}{o:Oper}{d:Tmp}
theorem zat {hi:Operand}(hw:zg ops t o=true)(hd:o.dst=some d)(hn:zl X.nt (some d)=true)(ho:o.op=.slice ty x none (some hi) none)(hu:X.E.und ty=some (.array len e))(hi':X.E.inf e=some (sz,bt,z))
  (hx:evF t x=.pointer (some ⟨b,0,none⟩))(hhi:evF t hi=.int ik' ji)(hji:ji=(j:Int))(hb:gro b=false)(hl:j≤len∧0<len)
  (k:ED X ops r ms (i+1) ⟨⟨upd t d (.slice (some ⟨b,0,none⟩) j len),h,n,w⟩,al,ld,ef⟩ Q):ED X ops (o::r) (m::ms) i ⟨⟨t,h,n,w⟩,al,ld,ef⟩ Q:=by
 subst hji
 refine yL hw hd hn (by rw [ho];rfl) ?_ k
 rw [ho]
 show xB X.E ty (evF t x) none (some (evF t hi))=_
 rw [hx,hhi]
 have h2:(0:Int)≤(j:Int)∧(j:Int)≤(len:Int):=zo
 have h3:Nat.beq len 0=false:=by
  cases he:Nat.beq len 0 with
  |false=>rfl
  |true=>have:=Nat.eq_of_beq_eq_true he;omega
 simp only [xB,hu,hi',bnd,if_pos h2,Int.toNat_natCast,hb,offA,h3,wZ,Nat.zero_mul,Nat.sub_zero]
end
theorem iF {q:List Nat}{r:Nat}(hV:wv L=dv CB C+CB^C.length*wv W)(hW:wv W=CB*wv q+r):wv L=dv CB (C++[r])+CB^(C.length+1)*wv q:=by
 rw [hV,hW,xD,Nat.pow_succ]
 show _=dv CB C+CB^C.length*(r+CB*0)+_
 rw [Nat.mul_zero,Nat.add_zero,Nat.mul_add,Nat.mul_assoc,Nat.add_assoc,Nat.add_comm (CB^C.length*r)]
theorem mM (k:Nat){h:HF}(hG:GK.G h){n:Nat}(hn:20≤n){a:Option Addr}(g:GroT h n (.slice a T.length T.length) T)(hT:T.length<100000000)(hs:Sl h n 1 (.slice ax lx cx) (u64s L))(nL:NW L)(hl:L.length≤30)(h0:L≠[]):
  CF (cal (k+5)) 189 [.slice a T.length T.length,.slice ax lx cx,.int .i64 0] h n fun v h' n' w=>AS h n (.slice a T.length T.length) h' n' w v (T++decN (wv L)):=by
 refine zr (fn:=Tryz.f189) rfl rfl rfl rfl ?_
 have elx:=hs.lenW
 subst elx
 have hlen0:L.length≠0:=fun e=>h0 (List.length_eq_zero_iff.1 e)
 refine zN ?_
 refine zM ?_
 refine zN ?_
 refine zM ?_
 refine zu _ rfl rfl rfl rfl rfl (vM (k+3) hs zo) ?_
 rintro vw h1 n1 _ ⟨rfl,hn1,hx1,hs1,hg1⟩
 obtain ⟨bw,rfl,hbl,hbh,hrw,hgw⟩:=(hg1 h0).inv hlen0
 clear hg1 hs1
 refine zM ?_
 refine zN ?_
 refine zM ?_
 refine zN ?_
 refine zV (α:=List Nat×List Nat×List Nat×Option Addr) (fun z=>[(0,.slice a T.length T.length),(2,.int .i64 0),(7,.slice (some ⟨bw,0,none⟩) z.1.length L.length),(8,.slice z.2.2.2 z.2.2.1.length z.2.2.1.length)])
  (fun z h' n' w=>w=[]∧n1≤n'∧Ext n h h'∧h' bw=some (.row (u64s (z.1++z.2.1)) 170)∧z.1.length+z.2.1.length=L.length∧NW z.1∧Gro h' n1 n' 170 1 (.slice z.2.2.2 z.2.2.1.length z.2.2.1.length) z.2.2.1.length (u64s z.2.2.1)∧(∀c∈z.2.2.1,c<CB)∧wv L=dv CB z.2.2.1+CB^z.2.2.1.length*wv z.1∧(wv z.1=0→∃C' c,z.2.2.1=C'++[c]∧c≠0)∧z.2.2.1.length≤31) (fun z=>32-z.2.2.1.length)
  (L,[],[],none) ⟨rfl,rfl,rfl,rfl,trivial⟩ ⟨rfl,Nat.le_refl _,hx1,by rw [List.append_nil];exact hrw,rfl,nL,.nil,fun c hc=>absurd hc List.not_mem_nil,by show wv L=0+CB^0*wv L;rw [Nat.pow_zero];omega,fun e=>absurd (nL.zero.1 e) h0,by show 0≤31;omega⟩ (by show 32-0<LL;unfold LL;omega) ?_
 rintro ⟨W,tl,C,a8⟩ t h2 n2 _ ⟨rfl,hn2,hx2,hr2,hlw,nW,hgC,hC,hV,hlast,hC31⟩
 have hr2:h2 bw=some (.row (u64s (W++tl)) 170):=hr2
 have hlw:W.length+tl.length=L.length:=hlw
 have nW:NW W:=nW
 have hgC:Gro h2 n1 n2 170 1 (.slice a8 C.length C.length) C.length (u64s C):=hgC
 have hC:∀c∈C,c<CB:=hC
 have hV:wv L=dv CB C+CB^C.length*wv W:=hV
 have hlast:wv W=0→∃C' c,C=C'++[c]∧c≠0:=hlast
 have hC31:C.length≤31:=hC31
 refine zN ?_
 by_cases hW0:W=[]
 ·subst hW0
  have hVC:wv L=dv CB C:=by rw [hV];show _+_*0=_;omega
  obtain ⟨C',cl,hCl,hcl0⟩:=hlast rfl
  have hCn:C.length≠0:=by rw [hCl,List.length_append];simp
  repeat refine zR ?_
  refine zN ?_
  rw [za rfl]
  refine zN ?_
  refine w9 (List.replicate 20 (.int .u8 0)) rfl rfl rfl rfl rfl rfl ?_
  intro hL pL xL
  refine zN ?_
  refine zM ?_
  refine zN ?_
  repeat refine zR ?_
  refine zN ?_
  obtain ⟨eB,pL⟩:∃e,hL (3*n2+2)=some (.row (List.replicate 20 (.int .u8 0)) e):=⟨_,pL⟩
  have hxL:Ext n h hL:=hx2.trans xL zo
  have gC:Gro hL n1 (n2+1) 170 1 (.slice a8 C.length C.length) C.length (u64s C):=hgC.ext xL zs
  obtain ⟨b8,hb8e,hb8l,hb8h,hb8r,hb8g⟩:=gC.inv hCn
  injection hb8e with hb8e
  subst hb8e
  have gT:GroT hL (n2+1) (.slice a T.length T.length) T:=g.ext hxL zo
  have tx0:TxI n (.slice a T.length T.length) hL (n2+1) (3*n2+2) eB hL (n2+1) [] a T:=⟨Nat.le_refl _,gT,.inl rfl,fun b hb=>absurd hb List.not_mem_nil,fun _ _ _ _=>rfl,List.replicate 20 (.int .u8 0),pL,List.length_replicate⟩
  have hv0:∀b,fh (.slice a T.length T.length) b→gro b=true∧b<3*n:=fun b ⟨o,l,c,e⟩=>g.blk e
  refine zV (α:=Nat×Option Addr×List Nat) (fun z=>[(0,.slice z.2.1 z.2.2.length z.2.2.length),(2,.int .i64 0),(8,.slice (some ⟨b8,0,none⟩) C.length C.length),(11,.pointer (some ⟨3*n2+2,0,none⟩)),(12,.bool (decide (z.1=C.length))),(13,.int .i64 ((z.1:Int)-1))])
   (fun z h' n' w=>TxI n (.slice a T.length T.length) hL (n2+1) (3*n2+2) eB h' n' w z.2.1 z.2.2∧z.1≤C.length∧z.2.2=T++oj C z.1∧z.2.2.length≤T.length+19*(C.length-z.1)) (fun z=>z.1)
   (C.length,a,T) ⟨rfl,rfl,rfl,rfl,by show Value.bool true=.bool (decide (C.length=C.length));rw [decide_eq_true rfl],rfl,trivial⟩ ⟨tx0,Nat.le_refl _,by show T=T++oj C C.length;unfold oj;rw [if_pos rfl,List.append_nil],Nat.le_add_right _ _⟩ (by show C.length<LL;unfold LL;omega) ?_
  rintro ⟨m,a1,T1⟩ t h3 n3 w3 ⟨tx,hm,hT1,hTl⟩
  have tx:TxI n (.slice a T.length T.length) hL (n2+1) (3*n2+2) eB h3 n3 w3 a1 T1:=tx
  have hm:m≤C.length:=hm
  have hT1:T1=T++oj C m:=hT1
  have hTl:T1.length≤T.length+19*(C.length-m):=hTl
  have hn3:=tx.hn
  refine zN ?_
  cases m with
  |zero=>
   have hf:decide (0=C.length)=false:=decide_eq_false zo
   rw [hf]
   repeat refine zR ?_
   refine zN ?_
   rw [za rfl]
   refine zN ?_
   refine zM ?_
   refine zN ?_
   rw [za rfl]
   refine zN ?_
   refine zM ?_
   refine zM ?_
   refine zN ?_
   have:=tx.as hxL zo zo
   rw [show T++decN (wv L)=T1 by rw [hT1,hVC];unfold oj;rw [if_neg zo,List.drop_zero]]
   exact retH [.slice a1 _ _] rfl rfl rfl this
  |succ m=>
   obtain ⟨c,hc⟩:∃c,C[m]?=some c:=⟨C[m]'zo,List.getElem?_eq_getElem zo⟩
   have hcB:c<CB:=hC c (List.mem_of_getElem? hc)
   have hc64:c<18446744073709551616:=Nat.lt_trans hcB zd
   have hD19:=gJ hcB
   have hD1:1≤(decN c).length:=by
    have:=ky c
    cases hh:decN c with
    |nil=>exact absurd hh this
    |cons _ _=>simp
   have hr8:h3 b8=some (.row (u64s C) 170):=(tx.fr b8 hb8h (fun e=>by rw [e,zX] at hb8g;cases hb8g) (fun hv=>by have:=(hv0 _ hv).2;omega)).trans hb8r
   have hat:=fB hr8 hc
   have hG3:GK.G h3:=G_fr (rj hG hxL hn) fun b hb hg=>tx.fr b zo zo fun hv=>by have:=(hv0 _ hv).1;rw [hg] at this;cases this
   obtain ⟨cb,hcb,hcbl⟩:=tx.buf
   repeat refine zR ?_
   refine zN ?_
   rw [zc rfl]
   refine zN ?_
   refine zn [0,0,0,6,14,31,63] rfl ?_
   refine zat (j:=0) rfl rfl rfl rfl rfl rfl rfl rfl rfl (zX n2) zo ?_
   refine zE ?_
   refine zE ?_
   refine zbm rfl rfl rfl rfl rfl rfl (aq:=some ⟨b8,0,none⟩) rfl (j:=m) (by show Value.int .i64 _=Value.int .i64 _;congr 1;omega) rfl zo ?_
   refine ye (v:=.int .u64 (c:Int)) rfl rfl rfl rfl rfl rfl (hat.ld1 0 rfl rfl) rfl rfl ?_
   refine uN _ rfl rfl rfl rfl rfl rfl rfl (mL k hG3 zo zo hcb ⟨hcbl.symm,zo⟩ hc64) ?_
   rintro v4 h4 n4 W4 ⟨rfl,hn4,hW4,ho4,c4,hr4,hl4,hd4⟩
   refine ⟨rD rfl,hn4,?_⟩
   rw [yP fun b hb=>by rw [hW4 b hb];show 3*n≤_;omega]
   refine zE ?_
   refine zN ?_
   have tx4:=tx.bufs (c:=[]) hn4 zo (zX _) ho4 hr4 (by rw [hl4,hcbl])
   obtain ⟨S,hS⟩:∃S,S=if m+1=C.length then (decN c).length else 19:=⟨_,rfl⟩
   have hSD:(decN c).length≤S∧S≤19:=by rw [hS];split<;>omega
   refine zM ?_
   refine zN ?_
   refine zM ?_
   refine zN ?_
   refine pf [(0,.slice a1 T1.length T1.length),(2,.int .i64 0),(8,.slice (some ⟨b8,0,none⟩) C.length C.length),(11,.pointer (some ⟨3*n2+2,0,none⟩)),(12,.bool (decide (m+1=C.length))),(13,.int .i64 (((m+1:Nat):Int)-1)),(14,.slice (some ⟨3*n2+2,0,none⟩) (decN c).length 20),(15,.int .i64 (S:Int))] (fun h' n' w'=>h4=h'∧n4=n'∧w3=w') ?_ ?_
   ·by_cases hf:m+1=C.length
    ·rw [zc (by show Value.bool (decide (m+1=C.length))=_;rw [decide_eq_true hf])]
     refine zN ?_
     refine zM ?_
     refine zM ?_
     refine zM ?_
     refine zM ?_
     refine st_mul (a:=19) (b:=((m+1:Nat):Int)-1) rfl rfl rfl rfl rfl rfl zo ?_
     refine tj (a:=0) (b:=19*(((m+1:Nat):Int)-1)) rfl rfl rfl rfl rfl rfl zo ?_
     refine st_I (ik:=.i64) (a:=(S:Int)) rfl rfl rfl rfl ?_ ?_
     ·show some (Value.int .i64 (if (((decN c).length:Nat):Int)<0-19*(((m+1:Nat):Int)-1) then 0-19*(((m+1:Nat):Int)-1) else (((decN c).length:Nat):Int)))=_
      rw [if_neg zo,hS,if_pos hf]
     refine zM ?_
     refine zN ?_
     exact wV ⟨rfl,rfl,rfl,rfl,rfl,rfl,rfl,rfl,trivial⟩ ⟨rfl,rfl,rfl⟩
    rw [za (by show Value.bool (decide (m+1=C.length))=_;rw [decide_eq_false hf])]
    refine zN ?_
    exact wV ⟨rfl,rfl,rfl,rfl,rfl,rfl,rfl,by show Value.int .i64 19=.int .i64 (S:Int);rw [hS,if_neg hf];rfl,trivial⟩ ⟨rfl,rfl,rfl⟩
   rintro t _ _ _ ⟨rfl,rfl,rfl⟩
   refine zN ?_
   refine zM ?_
   refine zM ?_
   refine zM ?_
   refine tj (a:=(S:Int)) (b:=(((decN c).length:Nat):Int)) rfl rfl rfl rfl rfl rfl zo ?_
   obtain ⟨N,hN⟩:∃N,N=S-(decN c).length:=⟨_,rfl⟩
   rw [show (S:Int)-(((decN c).length:Nat):Int)=(N:Int) by omega]
   refine zM ?_
   refine zN ?_
   refine zV (α:=Nat×Option Addr×List Nat) (fun z=>[(0,.slice z.2.1 z.2.2.length z.2.2.length),(2,.int .i64 0),(8,.slice (some ⟨b8,0,none⟩) C.length C.length),(11,.pointer (some ⟨3*n2+2,0,none⟩)),(12,.bool (decide (m+1=C.length))),(13,.int .i64 (((m+1:Nat):Int)-1)),(14,.slice (some ⟨3*n2+2,0,none⟩) (decN c).length 20),(70,.int .i64 (N:Int)),(71,.int .i64 (z.1:Int))])
    (fun z h' n' w=>TxI n (.slice a T.length T.length) hL (n2+1) (3*n2+2) eB h' n' w z.2.1 z.2.2∧h' (3*n2+2)=h4 (3*n2+2)∧z.1≤N∧z.2.2=T1++List.replicate z.1 48) (fun z=>N-z.1)
    (0,a1,T1) ⟨rfl,rfl,rfl,rfl,rfl,rfl,rfl,rfl,rfl,trivial⟩ ⟨tx4,rfl,Nat.zero_le _,by show T1=T1++[];rw [List.append_nil]⟩ (by show N-0<LL;unfold LL;omega) ?_
   rintro ⟨cnt,a5,T5⟩ t h5 n5 w5 ⟨tx5,hb5,hcnt,hT5⟩
   have tx5:TxI n (.slice a T.length T.length) hL (n2+1) (3*n2+2) eB h5 n5 w5 a5 T5:=tx5
   have hcnt:cnt≤N:=hcnt
   have hT5:T5=T1++List.replicate cnt 48:=hT5
   have hl5:T5.length=T1.length+cnt:=by rw [hT5,List.length_append,List.length_replicate]
   have hn5:=tx5.hn
   refine zN ?_
   by_cases hlt:cnt<N
   ·repeat refine zR ?_
    refine zN ?_
    rw [zc rfl]
    refine zN ?_
    refine zM ?_
    refine uu [.int .u8 48] (l:=1) (c:=1) rfl rfl rfl rfl rfl ?_
    intro h6 p6 x6
    refine fP (m:=1) (new:=[48]) rfl rfl rfl rfl rfl rfl rfl rfl rfl zb rfl (wp p6 rfl rfl) (Nat.le_refl _) rfl zo (tx5.ext x6 zs zo) zo (zX _) (by show n≤n2+1;omega) ?_
    intro a7 h7 w7 tx7 hb7
    refine zM ?_
    refine zN ?_
    refine zR ?_
    refine zM ?_
    refine zN ?_
    exact goOn (cnt+1,a7,T5++[48]) (by show N-(cnt+1)<N-cnt;omega) ⟨rfl,rfl,rfl,rfl,rfl,rfl,rfl,rfl,rfl,trivial⟩ ⟨tx7,hb7.trans ((x6 _ zo).trans hb5),by show cnt+1≤N;omega,by show T5++[48]=T1++List.replicate (cnt+1) 48;rw [hT5,List.append_assoc,←List.replicate_succ']⟩
   have hcN:cnt=N:=zo
   repeat refine zR ?_
   refine zN ?_
   rw [za rfl]
   refine zN ?_
   refine zM ?_
   refine zM ?_
   refine fP (m:=(decN c).length) (new:=decN c) rfl rfl rfl rfl rfl rfl rfl rfl rfl zb rfl (vN (hb5.trans hr4) (by rw [List.drop_zero];exact hd4) zo zo) hD1 rfl zo tx5 zo (zX _) (by show n≤n2+1;omega) ?_
   intro a7 h7 w7 tx7 hb7
   refine zM ?_
   refine zN ?_
   refine zM ?_
   refine zN ?_
   refine zM ?_
   refine tj (a:=((m+1:Nat):Int)-1) (b:=1) rfl rfl rfl rfl rfl rfl zo ?_
   refine zM ?_
   refine zN ?_
   refine goOn (m,a7,T5++decN c) (by show m<m+1;omega) ⟨rfl,rfl,rfl,rfl,by show Value.bool false=.bool (decide (m=C.length));rw [decide_eq_false zo],by show Value.int .i64 _=Value.int .i64 _;congr 1;omega,trivial⟩ ⟨tx7,by show m≤C.length;omega,?_,?_⟩
   ·show T5++decN c=T++oj C m
    rw [iI hCl hcl0 hc hcB,hT5,hT1,hcN,hN,hS]
    simp only [List.append_assoc]
   show (T5++decN c).length≤T.length+19*(C.length-m)
   rw [List.length_append]
   omega
 have hWl:W.length≠0:=fun e=>hW0 (List.length_eq_zero_iff.1 e)
 have hwv0:wv W≠0:=fun e=>hW0 (nW.zero.1 e)
 have hC30:=cU nL.1 hl hV hwv0
 repeat refine zR ?_
 refine zN ?_
 rw [zc rfl]
 refine zN ?_
 refine zM ?_
 refine zN ?_
 repeat refine zR ?_
 refine zN ?_
 refine zV (α:=Nat×List Nat×Nat) (fun x=>[(0,.slice a T.length T.length),(2,.int .i64 0),(7,.slice (some ⟨bw,0,none⟩) W.length L.length),(8,.slice a8 C.length C.length),(9,.int .u64 (x.2.2:Int)),(10,.int .i64 ((x.1:Int)-1))])
  (fun x h' n' w=>w=[]∧n2=n'∧Only bw h2 h'∧h' bw=some (.row (u64s (W.take x.1++(x.2.1++tl))) 170)∧x.1+x.2.1.length=W.length∧WdD x.2.1∧x.2.2<CB∧wv (W.drop x.1)=CB*wv x.2.1+x.2.2) (fun x=>x.1)
  (W.length,[],0) ⟨rfl,rfl,rfl,rfl,rfl,rfl,trivial⟩ ⟨rfl,rfl,fun _ _=>rfl,by rw [List.take_length,List.nil_append];exact hr2,rfl,WdD.nil,by show 0<CB;decide,by rw [List.drop_length];rfl⟩ (by show W.length<LL;unfold LL;omega) ?_
 rintro ⟨j,q,r⟩ t h3 _ _ ⟨rfl,rfl,ho3,hr3,hjl,hq,hr,hWV⟩
 have hr3:h3 bw=some (.row (u64s (W.take j++(q++tl))) 170):=hr3
 have hjl:j+q.length=W.length:=hjl
 have hq:WdD q:=hq
 have hr:r<CB:=hr
 have hWV:wv (W.drop j)=CB*wv q+r:=hWV
 have hx3:Ext n h h3:=hx2.st ho3 zo
 refine zN ?_
 cases j with
 |succ j=>
  obtain ⟨x,hx⟩:∃x,W[j]?=some x:=⟨W[j]'zo,List.getElem?_eq_getElem zo⟩
  have hx':=nW.1.get hx
  have hsl:Sl h3 n2 1 (.slice (some ⟨bw,0,none⟩) W.length L.length) (u64s (W.take (j+1)++q)):=.at_ zo hr3 rfl zo (by rw [zL];simp;omega) (by
   rw [List.drop_zero,Nat.mul_one,tS,←List.append_assoc,List.take_append_of_le_length (by simp;omega),List.take_of_length_le (by simp;omega)])
  have hget:(W.take (j+1)++q)[j]?=some x:=by rw [List.getElem?_append_left (by simp;omega),List.getElem?_take_of_lt zo,hx]
  repeat refine zR ?_
  refine zN ?_
  rw [zc rfl]
  refine zN ?_
  repeat refine zR ?_
  refine z5 (f:=fun d:Nat=>Value.int .u64 (d:Int)) (j:=j) rfl rfl rfl rfl rfl rfl rfl hsl rfl zo hget (fun _=>rfl) rfl rfl rfl rfl fun _=>?_
  refine yf _ rfl rfl rfl rfl rfl (r7 (k+1) h3 n2 (y:=CB) hr hx' zd) ?_
  rintro _ rfl
  repeat refine zR ?_
  refine yZ (j:=j) (v:=.int .u64 (((r*18446744073709551616+x)/CB:Nat):Int)) rfl rfl rfl rfl rfl rfl rfl rfl zo ⟨zo,by rw [zL];simp;omega⟩ hr3 (by show 3*n≤bw;omega) (fun _=>rfl) rfl rfl rfl (fun _=>rfl) rfl fun _=>?_
  rw [yj,List.set_append_left _ _ (by simp;omega),List.take_add_one,hx,Option.toList_some,List.set_append_right _ _ (by rw [List.length_take];omega),List.length_take,Nat.min_eq_left zo,Nat.sub_self,List.set_cons_zero,List.append_assoc,List.singleton_append]
  repeat refine zR ?_
  refine zN ?_
  repeat refine zR ?_
  refine zN ?_
  obtain ⟨g1,g2⟩:=qd (V:=wv (W.drop (j+1))) (Vq:=wv q) (r:=r) (a:=x) (d:=CB) zd hWV
  refine goOn (j,(r*18446744073709551616+x)/CB::q,(r*18446744073709551616+x)%CB) (by show j<j+1;omega) ⟨rfl,rfl,rfl,rfl,rfl,by show Value.int .i64 _=Value.int .i64 _;congr 1;omega,trivial⟩ ⟨rfl,rfl,fun b hb=>(zh hb).trans (ho3 b hb),(ze _ _ _).trans (by rw [List.cons_append]),by show j+(_::q).length=_;simp;omega,?_,Nat.mod_lt _ zd,?_⟩
  ·intro y hy
   rcases List.mem_cons.1 hy with rfl|hy
   ·exact fm hr hx'
   exact hq y hy
  show wv (W.drop j)=CB*wv (_::q)+_
  rw [mU hx,←g2]
  have:=Nat.div_add_mod (x+18446744073709551616*wv (W.drop (j+1))) CB
  rw [g1] at this
  exact this.symm
 |zero=>
  rw [List.take_zero,List.nil_append] at hr3
  rw [List.drop_zero] at hWV
  have hql:q.length=W.length:=zo
  repeat refine zR ?_
  refine zN ?_
  rw [za rfl]
  refine zN ?_
  refine zM ?_
  have hsq:Sl h3 n2 1 (.slice (some ⟨bw,0,none⟩) W.length L.length) (u64s q):=.at_ zo hr3 rfl zo (by rw [zL];simp;omega) (by
   rw [List.drop_zero,Nat.mul_one,tS,List.take_append_of_le_length zo,List.take_of_length_le zo])
  refine zu _ rfl rfl rfl rfl rfl (xP (k+3) (l:=q) zo (fun _ e=>by injection e with e;rw [←e]) hsq) ?_
  rintro _ h3 n2 _ ⟨rfl,rfl,rfl,rfl,hsq2⟩
  refine zM ?_
  refine zN ?_
  refine zM ?_
  refine zM ?_
  refine uu [.int .u64 (r:Int)] (l:=1) (c:=1) rfl rfl rfl rfl rfl ?_
  intro h4 p4 x4
  have hgC4:Gro h4 n1 (n2+1) 170 1 (.slice a8 C.length C.length) C.length (u64s C):=(hgC.same fun b hb _ _=>ho3 b zo).ext x4 zs
  refine pE (lo:=n1) (m:=1) rfl rfl rfl rfl rfl rfl rfl rfl ⟨Nat.le_of_ble_eq_true rfl,Nat.le_of_ble_eq_true rfl⟩ hgC4 (wp p4 rfl rfl) (Nat.le_refl _) zo rfl rfl ⟨by show n≤_;omega,zo⟩ ?_
  intro v5 h5 g5 x5 k5
  obtain ⟨a5,rfl,_⟩:=g5.shape
  have hr5:h5 bw=_:=(x5 bw hbh).trans ((x4 bw zo).trans hr3)
  refine zM ?_
  refine zN ?_
  have hsz:=iF (C:=C) (r:=r) hV hWV
  refine goOn (zT q,q.drop (zT q).length++tl,C++[r],a5) (by show 32-(C++[r]).length<32-C.length;rw [List.length_append];show 32-(C.length+1)<_;omega) ⟨rfl,rfl,rfl,by show Value.slice a5 _ _=Value.slice a5 _ _;rw [List.length_append];rfl,trivial⟩ ⟨rfl,by show n1≤n2+1+1;omega,?_,?_,?_,NW.trim hq,?_,?_,?_,?_,?_⟩
  ·exact fun b hb=>(x5 b zo).trans ((x4 b zo).trans (hx3 b hb))
  ·refine hr5.trans ?_
   show some (BF.row (u64s (q++tl)) _)=some (BF.row (u64s (zT q++(q.drop (zT q).length++tl))) _)
   rw [←List.append_assoc]
   conv=>rhs;rw [←uW q,List.length_take,Nat.min_eq_left (yR q),List.take_append_drop]
  ·show (zT q).length+(q.drop (zT q).length++tl).length=L.length
   have:=yR q
   rw [List.length_append,List.length_drop]
   omega
  ·show Gro h5 n1 (n2+1+1) _ 1 (.slice a5 (C++[r]).length (C++[r]).length) (C++[r]).length (u64s (C++[r]))
   rw [wL,List.length_append]
   exact g5
  ·intro c hc
   rcases List.mem_append.1 hc with h|h
   ·exact hC c h
   rw [List.mem_singleton.1 h];exact hr
  ·show wv L=dv CB (C++[r])+CB^(C++[r]).length*wv (zT q)
   rw [show wv (zT q)=wv q from rS _ _,List.length_append]
   exact hsz
  ·intro e
   have e:wv (zT q)=0:=e
   rw [show wv (zT q)=wv q from rS _ _] at e
   rw [e,Nat.mul_zero,Nat.zero_add] at hWV
   exact ⟨C,r,rfl,zo⟩
  show (C++[r]).length≤31
  rw [List.length_append]
  show C.length+1≤31
  omega
end
section
set_option maxHeartbeats 4000000
variable {h h':HF}{cx l lx m n n':Nat}{L T:List Nat}{ax:Option Addr}{v:Value}
theorem kI (k:Nat)(hG:GK.G h)(hn:20≤n){a:Option Addr}(g:GroT h n (.slice a T.length T.length) T)(hT:T.length<100000000){ap:Option Addr}{cp:Nat}(hs:Sl h n 1 (.slice ax lx cx) (u64s L))(nL:NW L)(hl:L.length≤30)(h0:L≠[]):
  CF (cal (k+6)) 152 [.slice a T.length T.length,.slice ax lx cx,.int .i64 0,.slice ap 1 cp] h n fun v h' n' w=>AS h n (.slice a T.length T.length) h' n' w v (T++decN (wv L)):=by
 refine zr (fn:=Tryz.f152) rfl rfl rfl rfl ?_
 have elx:=hs.lenW
 subst elx
 refine zN ?_
 refine zM ?_
 refine zN ?_
 repeat refine zR ?_
 refine zN ?_
 repeat refine zR ?_
 refine zN ?_
 rw [zc rfl]
 refine zN ?_
 refine zM ?_
 refine zM ?_
 refine zM ?_
 refine zu _ rfl rfl rfl rfl rfl (mM k hG hn g hT hs nL hl h0) ?_
 intro v h1 n1 w1 a1
 obtain ⟨a',rfl⟩:=a1.g.shape
 have a2:=(AS.refl g).trans a1
 refine zM ?_
 refine zN ?_
 exact retH [.slice a' _ _] rfl rfl rfl a2
theorem pc (k:Nat)(hG:GK.G h)(hn:20≤n){a:Option Addr}(g:GroT h n (.slice a T.length T.length) T)(hT:T.length<100000000)(hs:Sl h n 1 (.slice ax lx cx) (u64s L))(nL:NW L)(hl:L.length≤30):
  CF (cal (k+7)) 116 [.slice a T.length T.length,.slice ax lx cx] h n fun v h' n' w=>AS h n (.slice a T.length T.length) h' n' w v (T++decN (wv L)):=by
 refine zr (fn:=Tryz.f116) rfl rfl rfl rfl ?_
 have elx:=hs.lenW
 subst elx
 refine zN ?_
 refine zM ?_
 refine zN ?_
 by_cases h0:L=[]
 ·subst h0
  repeat refine zR ?_
  refine zN ?_
  rw [zc rfl]
  refine zN ?_
  refine zM ?_
  refine uu [.int .u8 48] (l:=1) (c:=1) rfl rfl rfl rfl rfl ?_
  intro h1 p1 x1
  refine qq (m:=1) (new:=[48]) rfl rfl rfl rfl rfl rfl rfl rfl rfl zb rfl (wp p1 rfl rfl) (Nat.le_refl _) rfl zo ((AS.refl g).ext x1 zs) ?_
  intro v' h' w' a1 _
  obtain ⟨a',rfl⟩:=a1.g.shape
  refine zM ?_
  refine zN ?_
  exact retH [.slice a' _ _] rfl rfl rfl a1
 have hlen0:L.length≠0:=fun e=>h0 (List.length_eq_zero_iff.1 e)
 repeat refine zR ?_
 refine zN ?_
 rw [za rfl]
 refine zN ?_
 by_cases h1:L.length=1
 ·obtain ⟨w,rfl⟩:=List.length_eq_one_iff.1 h1
  have hw64:w<18446744073709551616:=nL.1 w (by simp)
  repeat refine zR ?_
  refine zN ?_
  rw [zc rfl]
  refine zN ?_
  refine zM ?_
  refine zM ?_
  refine z5 (f:=fun d:Nat=>Value.int .u64 (d:Int)) (j:=0) (dv:=w) rfl rfl rfl rfl rfl rfl rfl hs rfl rfl rfl (fun _=>rfl) rfl rfl rfl rfl fun _=>?_
  refine zu _ rfl rfl rfl rfl rfl (kH (k+2) hG hn hw64 g zo) ?_
  intro v h1 n1 w1 a1
  obtain ⟨a',rfl⟩:=a1.g.shape
  have a2:=(AS.refl g).trans a1
  refine zM ?_
  refine zN ?_
  rw [qc]
  exact retH [.slice a' _ _] rfl rfl rfl a2
 repeat refine zR ?_
 refine zN ?_
 rw [za rfl]
 refine zN ?_
 refine uu [.int .u64 10000000000000000000] (l:=1) (c:=1) rfl rfl rfl rfl rfl ?_
 intro h1 p1 x1
 refine uu [.slice (some ⟨3*n+2,0,none⟩) 1 1] (l:=1) (c:=1) rfl rfl rfl rfl rfl ?_
 intro h2 p2 x2
 refine zM ?_
 refine zN ?_
 have x12:Ext n h h2:=x1.trans x2 zo
 refine zV (α:=Nat) (fun _=>[(0,.slice a T.length T.length),(1,.slice ax L.length cx),(5,.slice (some ⟨3*(n+1)+2,0,none⟩) 1 1)]) (fun _ h' n' w=>h2=h'∧n+1+1=n'∧w=[]) (fun z=>z) 0 ⟨rfl,rfl,rfl,trivial⟩ ⟨rfl,rfl,rfl⟩ (by show 0<LL;unfold LL;omega) ?_
 rintro _ t _ _ _ ⟨rfl,rfl,rfl⟩
 refine zN ?_
 repeat refine zR ?_
 refine zN ?_
 rw [za rfl]
 refine zN ?_
 refine zM ?_
 refine zM ?_
 refine zM ?_
 refine zu _ rfl rfl rfl rfl rfl (kI k (rj hG x12 hn) (n:=n+1+1) zo (g.ext x12 zo) hT (hs.ext x12 zo) nL hl h0) ?_
 intro v h3 n3 w3 a1
 obtain ⟨a',rfl⟩:=a1.g.shape
 have a2:=((AS.refl g).ext x12 zo).trans a1
 refine zM ?_
 refine zN ?_
 exact retH [.slice a' _ _] rfl rfl rfl a2
def intN (x:Int):List Nat:=(if x<0 then [45] else [])++decN x.natAbs
theorem dp (x:Int):(intN x).map UInt8.ofNat=intT x:=by
 unfold intN intT
 rw [List.map_append,←qV]
 congr 1
 split<;>rfl
theorem IW.few {b:Bool}{a:Option Addr}{c:Nat}{x:Int}(i:IW h n b a l c x)(hx:x.natAbs<2^m)(hm:m≤1920):∃L,Sl h n 1 (.slice a l c) (u64s L)∧NW L∧L.length≤30∧wv L=x.natAbs:=by
 obtain ⟨_,L,h1,h2,h3⟩:=i
 refine ⟨L,h1,h2,h2.len_le (k:=30) ?_,h3⟩
 rw [h3]
 refine Nat.lt_of_lt_of_le hx (Nat.le_trans (Nat.pow_le_pow_right zd hm) ?_)
 decide+kernel
theorem zcv {o:Nat}(hm:m≠0)(hl:L.length=m)(h:((u8s T).drop o).take m=u64s L):False:=by
 obtain ⟨d,L',rfl⟩:∃d L',L=d::L':=by
  cases L with
  |nil=>exact absurd hl.symm hm
  |cons d L'=>exact ⟨d,L',rfl⟩
 have h1:Value.int .u64 (d:Int)∈((u8s T).drop o).take m:=by rw [h];exact List.mem_cons_self
 have h2:=List.mem_of_mem_drop (List.mem_of_mem_take h1)
 obtain ⟨q,_,e⟩:=List.mem_map.1 h2
 cases e
theorem Sl.kept {u:Value}(s:Sl h n 1 v (u64s L))(k:Keep u n h h')(g:GroT h n u T)(hn:n≤n'):Sl h' n' 1 v (u64s L):=by
 generalize hL:u64s L=cl at s
 cases s with
 |nil ha=>exact .nil (vj ha hn)
 | @at_ b off len cap x cs c2 hb hx hc hcap hl he=>
  by_cases h0:len=0
  ·subst h0
   have:cl=[]:=by rw [←he];simp
   subst this
   exact .nil (.inr ⟨_,_,_,rfl,zo⟩)
  refine .at_ zo ((k b hb fun o l c e=>?_).trans hx) hc hcap hl he
  unfold GroT at g
  generalize T.length=tl at g
  generalize hT:u8s T=tc at g
  cases g with
  |nil=>cases e
  |at_ hg hlo hb2 hr hl2 ho=>
   cases e
   rw [hr] at hx
   cases hx
   injection hc with hc
   subst hc
   have hll:L.length=len*1:=by
    have:=congrArg List.length he
    rw [←hL,zL,List.length_take,List.length_drop] at this
    omega
   rw [←hT,←hL] at he
   exact zcv zo hll he
theorem q9 (k:Nat)(hG:GK.G h)(hn:20≤n){a:Option Addr}(g:GroT h n (.slice a T.length T.length) T)(hT:T.length<10000000){b:Bool}{x:Int}(i:IW h n b ax lx cx x)(hx:x.natAbs<2^m)(hm:m≤1920):
  CF (cal (k+8)) 67 [.agg #[.bool b,.slice ax lx cx],.slice a T.length T.length] h n fun v h' n' w=>AS h n (.slice a T.length T.length) h' n' w v (T++intN x):=by
 refine zr (fn:=Tryz.f67) rfl rfl rfl rfl ?_
 refine zN ?_
 refine nv [.bool b,.slice ax lx cx] rfl rfl rfl rfl rfl ?_
 intro h1 p1 x1
 have i1:=i.ext x1 zs
 obtain ⟨L,hs,nL,hl,hv⟩:=i1.few hx hm
 have a1:=(AS.refl g).ext x1 zs
 refine zM ?_
 refine zN ?_
 refine zM ?_
 refine zJ (v:=.bool b) rfl rfl rfl rfl rfl (z7 rfl p1 rfl rfl) ?_
 refine zN ?_
 cases b
 ·have hx0:=i.ge
  rw [za rfl]
  refine zN ?_
  refine zM ?_
  refine zM ?_
  refine zJ (v:=.slice ax lx cx) rfl rfl rfl rfl rfl (z7 rfl p1 rfl rfl) ?_
  refine zu _ rfl rfl rfl rfl rfl (pc k (rj hG x1 hn) (n:=n+1) zo a1.g zo hs nL hl) ?_
  intro v h3 n3 w3 a2
  obtain ⟨a',rfl⟩:=a2.g.shape
  have a3:=a1.trans a2
  rw [hv] at a3
  refine zM ?_
  refine zN ?_
  rw [show intN x=decN x.natAbs by unfold intN;rw [if_neg zo];rfl]
  exact retH [.slice a' _ _] rfl rfl rfl (by rw [hv];exact a3)
 have hx0:=i.lt
 rw [zc rfl]
 refine zN ?_
 refine zM ?_
 refine uu [.int .u8 45] (l:=1) (c:=1) rfl rfl rfl rfl rfl ?_
 intro h2 p2 x2
 have p12:h2 (3*n+2)=_:=(x2 _ zo).trans p1
 refine qq (m:=1) (new:=[45]) rfl rfl rfl rfl rfl rfl rfl rfl rfl zb rfl (wp p2 rfl rfl) (Nat.le_refl _) rfl zo (a1.ext x2 zs) ?_
 intro v' h3 w3 a2 k3
 obtain ⟨a',rfl⟩:=a2.g.shape
 have gg:GroT h2 (n+1+1) (.slice a T.length T.length) T:=(g.ext x1 zs).ext x2 zs
 have p13:h3 (3*n+2)=_:=(gg.keepB k3 (zX n) zo).trans p12
 have hG3:GK.G h3:=G_fr (rj hG (x1.trans x2 zs) hn) fun b hb hg=>gg.keepB k3 hg zo
 have hs3:Sl h3 (n+1+1+1) 1 (.slice ax lx cx) (u64s L):=(hs.ext x2 zs).kept k3 gg zs
 refine zM ?_
 refine zN ?_
 refine zM ?_
 refine zM ?_
 refine zJ (v:=.slice ax lx cx) rfl rfl rfl rfl rfl (z7 rfl p13 rfl rfl) ?_
 refine zu _ rfl rfl rfl rfl rfl (pc k hG3 (n:=n+1+1+1) zo a2.g (by rw [List.length_append];simp;omega) hs3 nL hl) ?_
 intro v h4 n4 w4 a4
 obtain ⟨a5,rfl⟩:=a4.g.shape
 have a6:=a2.trans a4
 rw [hv] at a6
 refine zM ?_
 refine zN ?_
 rw [show T++intN x=T++[45]++decN x.natAbs by unfold intN;rw [if_pos hx0,List.append_assoc]]
 exact retH [.slice a5 _ _] rfl rfl rfl (by rw [hv];exact a6)
end
section
set_option maxHeartbeats 4000000
variable {h h0:HF}{cx g l lx m n n0:Nat}{T w:List Nat}{v:Value}{ax:Option Addr}{q:Rat}
theorem GroT.text {a:Option Addr}(g:GroT h n (.slice a T.length T.length) T):argS h 1 (.slice a T.length T.length) T.length (u8s T):=ut (Gro.sl g)
theorem GroT.nil (h:HF)(n:Nat):GroT h n (.slice none ([]:List Nat).length ([]:List Nat).length) []:=Gro.nil
theorem za1:∀(m V:Nat),V<2^m→(decD V).length≤m:=by
 intro m
 induction m with
 |zero=>(intro V h;have:V=0:=by simpa using h);subst this;simp [decD]
 |succ m ih=>
  intro V h
  by_cases h0:V=0
  ·subst h0;simp [decD]
  rw [decD]
  simp only [h0,if_false,↓reduceDIte,↓reduceIte,List.length_cons,List.length_append,List.length_singleton,List.length_nil]
  have:=ih (V/10) (by rw [Nat.pow_succ] at h;omega)
  omega
theorem zaj {x:Int}(h:x.natAbs<2^m):(intN x).length≤m+2:=by
 have h1:(decN x.natAbs).length≤m+1:=by
  unfold decN
  split
  ·simp
  have:=za1 m _ h
  simp only [decB,List.length_map,List.length_reverse]
  omega
 unfold intN
 rw [List.length_append]
 split<;>simp<;>omega
theorem AS.w_nil {c:Nat}(a:AS h0 n0 (.slice none l c) h n w v T):w=[]:=by
 cases w with
 |nil=>rfl
 |cons b w=>
  obtain ⟨o,l,c,e⟩:=a.hw b List.mem_cons_self
  cases e
theorem fJ (k:Nat)(hG:GK.G h)(hn:20≤n){b:Bool}{x:Int}(i:IW h n b ax lx cx x)(hx:x.natAbs<2^m)(hm:m≤1920):
  VF (cal (k+9)) 66 [.agg #[.bool b,.slice ax lx cx]] h n fun v=>v=.string ⟨⟨intT x⟩⟩:=by
 refine zA (fn:=Tryz.f66) rfl rfl rfl rfl ?_
 refine zN ?_
 refine nv [.bool b,.slice ax lx cx] rfl rfl rfl rfl rfl ?_
 intro h1 p1 x1
 have i1:=i.ext x1 zs
 refine zM ?_
 refine zN ?_
 refine zJ (v:=.agg #[.bool b,.slice ax lx cx]) rfl rfl rfl rfl rfl (zB rfl rfl p1 rfl zb rfl) ?_
 refine zu _ rfl rfl rfl rfl rfl (q9 k (rj hG x1 hn) (n:=n+1) zo (GroT.nil h1 (n+1)) (by show 0<10000000;omega) i1 hx hm) ?_
 intro v h2 n2 w2 a2
 obtain ⟨a',rfl⟩:=a2.g.shape
 have hw2:=a2.w_nil
 subst hw2
 refine ql rfl rfl rfl rfl rfl (tU (B:=[]++intN x) rfl rfl rfl a2.g.text) ?_
 refine zM ?_
 refine zN ?_
 refine retF _ rfl (zi rfl) rfl rfl ?_
 show Value.string _=_
 rw [List.nil_append,dp]
theorem np {w:Nat}(hw:w≤9223372036854775808)(h0:0<w):IntKind.wrap .i64 ((18446744073709551616-w:Nat):Int)= -(w:Int):=by
 simp only [IntKind.wrap,IntKind.signed,IntKind.bits]
 simp
 omega
theorem zak (k:Nat){b:Bool}{x:Int}(i:IW h n b ax lx cx x):
  VF (cal (k+1)) 64 [.agg #[.bool b,.slice ax lx cx]] h n fun v=>∃y ok,v=.tuple #[.int .i64 y,.bool ok]∧(ok=true→y=x∧ -9223372036854775808≤x∧x<9223372036854775808):=by
 refine zA (fn:=Tryz.f64) rfl rfl rfl rfl ?_
 obtain ⟨eb,L,hs,nL,hv⟩:=i
 have elx:=hs.lenW
 subst elx
 refine zN ?_
 refine nv [.bool b,.slice ax L.length cx] rfl rfl rfl rfl rfl ?_
 intro h1 p1 x1
 have hs1:=hs.ext x1 zs
 refine zM ?_
 refine zM ?_
 refine zN ?_
 refine zM ?_
 refine zJ (v:=.slice ax L.length cx) rfl rfl rfl rfl rfl (z7 rfl p1 rfl rfl) ?_
 by_cases h0:L=[]
 ·subst h0
  have hx0:x=0:=by
   have:x.natAbs=0:=hv.symm.trans rfl
   omega
  repeat refine zR ?_
  refine zN ?_
  rw [zc rfl]
  refine zN ?_
  repeat refine zR ?_
  refine zN ?_
  exact retF [.int .i64 0,.bool true] rfl (y2 rfl (y2 rfl ry)) rfl rfl ⟨_,_,rfl,fun _=>⟨hx0.symm,zo,zo⟩⟩
 have hl0:L.length≠0:=fun e=>h0 (List.length_eq_zero_iff.1 e)
 obtain ⟨w,L',rfl⟩:∃w L',L=w::L':=by
  cases L with
  |nil=>exact absurd rfl h0
  |cons w L'=>exact ⟨w,L',rfl⟩
 have hw64:w<18446744073709551616:=nL.1 w (by simp)
 repeat refine zR ?_
 refine zN ?_
 rw [za rfl]
 refine zN ?_
 refine zM ?_
 refine zJ (v:=.slice ax (w::L').length cx) rfl rfl rfl rfl rfl (z7 rfl p1 rfl rfl) ?_
 refine z5 (f:=fun d:Nat=>Value.int .u64 (d:Int)) (j:=0) (dv:=w) rfl rfl rfl rfl rfl rfl rfl hs1 rfl rfl rfl (fun _=>rfl) rfl rfl rfl rfl fun _=>?_
 refine zM ?_
 refine zN ?_
 refine zM ?_
 refine zJ (v:=.slice ax (w::L').length cx) rfl rfl rfl rfl rfl (z7 rfl p1 rfl rfl) ?_
 by_cases h1:L'=[]
 ·subst h1
  rw [qc] at hv
  have hw0:w≠0:=nL.last (l:=[])
  refine zM ?_
  refine pC rfl rfl rfl rfl rfl rfl (by show ¬(((1:Nat):Int)>1);omega) ?_
  refine zM ?_
  refine zN ?_
  rw [za rfl]
  refine zN ?_
  refine zM ?_
  refine zJ (v:=.bool b) rfl rfl rfl rfl rfl (z7 rfl p1 rfl rfl) ?_
  cases b
  ·have hx0:0≤x:=Int.not_lt.1 (of_decide_eq_false eb.symm)
   repeat refine zR ?_
   refine zN ?_
   rw [za rfl]
   refine zN ?_
   refine zM ?_
   refine zJ (v:=.bool false) rfl rfl rfl rfl rfl (z7 rfl p1 rfl rfl) ?_
   by_cases hlt:w≤9223372036854775807
   ·refine zM ?_
    refine zM ?_
    refine zM ?_
    refine ru rfl rfl rfl rfl rfl rfl zo ?_
    refine zM ?_
    refine zM ?_
    refine zN ?_
    rw [zc rfl]
    refine zN ?_
    refine zM ?_
    refine wO (a:=(w:Int)) rfl rfl rfl rfl rfl rfl rfl zo ?_
    refine zM ?_
    refine zM ?_
    refine zN ?_
    exact retF [.int .i64 (w:Int),.bool true] rfl (y2 rfl (y2 rfl ry)) rfl rfl ⟨_,_,rfl,fun _=>⟨zo,zo,zo⟩⟩
   refine zM ?_
   refine zM ?_
   refine zM ?_
   refine qn rfl rfl rfl rfl rfl rfl zo ?_
   refine zM ?_
   refine zM ?_
   refine zN ?_
   rw [za rfl]
   refine zN ?_
   refine zM ?_
   refine zM ?_
   refine zN ?_
   exact retF [.int .i64 0,.bool false] rfl (y2 rfl (y2 rfl ry)) rfl rfl ⟨_,_,rfl,fun e=>by cases e⟩
  have hx0:x<0:=of_decide_eq_true eb.symm
  by_cases hlt:w≤9223372036854775808
  ·refine zM ?_
   refine zM ?_
   refine ru rfl rfl rfl rfl rfl rfl zo ?_
   refine zM ?_
   refine zM ?_
   refine zN ?_
   rw [zc rfl]
   refine zN ?_
   refine zM ?_
   refine zF (v:=.int .u64 ((18446744073709551616-w:Nat):Int)) rfl rfl rfl rfl (eO hw64 hw0) ?_
   refine wP (ik:=.i64) (a:= -(w:Int)) rfl rfl rfl rfl rfl rfl (by show some (Value.int .i64 (IntKind.wrap .i64 _))=_;rw [np hlt zo]) ?_
   refine zM ?_
   refine zM ?_
   refine zN ?_
   exact retF [.int .i64 (-(w:Int)),.bool true] rfl (y2 rfl (y2 rfl ry)) rfl rfl ⟨_,_,rfl,fun _=>⟨zo,zo,zo⟩⟩
  refine zM ?_
  refine zM ?_
  refine qn rfl rfl rfl rfl rfl rfl zo ?_
  refine zM ?_
  refine zM ?_
  refine zN ?_
  rw [za rfl]
  refine zN ?_
  refine zM ?_
  refine zJ (v:=.bool true) rfl rfl rfl rfl rfl (z7 rfl p1 rfl rfl) ?_
  repeat refine zR ?_
  refine zN ?_
  rw [za rfl]
  refine zN ?_
  refine zM ?_
  refine zM ?_
  refine zN ?_
  exact retF [.int .i64 0,.bool false] rfl (y2 rfl (y2 rfl ry)) rfl rfl ⟨_,_,rfl,fun e=>by cases e⟩
 have hl2:2≤(w::L').length:=by
  cases L' with
  |nil=>exact absurd rfl h1
  |cons _ _=>simp
 refine zM ?_
 refine qo rfl rfl rfl rfl rfl rfl zo ?_
 refine zM ?_
 refine zN ?_
 rw [zc rfl]
 refine zN ?_
 refine zM ?_
 refine zM ?_
 refine zN ?_
 exact retF [.int .i64 0,.bool false] rfl (y2 rfl (y2 rfl ry)) rfl rfl ⟨_,_,rfl,fun e=>by cases e⟩
theorem pM (h:denZ q=0):ratT q=intT q.num:=by
 unfold ratT intT
 rw [if_pos (yX.1 h),List.append_nil]
theorem ew (h:¬denZ q=0):ratT q=(intN q.num++[47]++intN (denZ q)).map UInt8.ofNat:=by
 rw [List.map_append,List.map_append,dp,dp,vv h]
 unfold ratT intT
 rw [if_neg (mt yX.2 h),if_neg (show ¬((q.den:Nat):Int)<0 by omega)]
 simp only [List.append_assoc,Int.natAbs_natCast]
 rfl
theorem rz (k:Nat)(hG:GK.G h)(hn:20≤n){b d:Bool}{a e:Option Addr}{c f:Nat}(i:IW h n b a l c q.num)(j:IW h n d e f g (denZ q))(hq:Sz m q)(hm:m≤1920):
  VF (cal (k+10)) 30 [.agg #[.bool b,.slice a l c,.bool d,.slice e f g]] h n fun v=>v=.string ⟨⟨ratT q⟩⟩:=by
 refine zA (fn:=Tryz.f30) rfl rfl rfl rfl ?_
 refine zN ?_
 refine nv [.bool b,.slice a l c,.bool d,.slice e f g] rfl rfl rfl rfl rfl ?_
 intro h1 p1 x1
 have i1:=i.ext x1 zs
 have j1:=j.ext x1 zs
 have hG1:=rj hG x1 hn
 refine zM ?_
 refine zN ?_
 refine zM ?_
 refine zJ (v:=.agg #[.bool d,.slice e f g]) rfl rfl rfl rfl rfl (zB rfl rfl p1 rfl zb rfl) ?_
 refine yf _ rfl rfl rfl rfl rfl (jA (k+8) j1) ?_
 rintro _ ⟨z,rfl,hz⟩
 refine zN ?_
 cases z
 ·have hz:¬denZ q=0:=fun e=>by cases hz.2 e
  rw [za rfl]
  refine zN ?_
  refine zM ?_
  refine zJ (v:=.agg #[.bool b,.slice a l c]) rfl rfl rfl rfl rfl (zB rfl rfl p1 rfl zb rfl) ?_
  refine zu _ rfl rfl rfl rfl rfl (q9 (k+1) hG1 (n:=n+1) zo (GroT.nil h1 (n+1)) (by show 0<10000000;omega) i1 hq.1 hm) ?_
  intro v h2 n2 w2 a2
  obtain ⟨a',rfl⟩:=a2.g.shape
  have hw2:=a2.w_nil
  subst hw2
  have x2:Ext (n+1) h1 h2:=fun b hb=>a2.keep b hb fun o l c e=>by cases e
  have hn2:=a2.hn
  refine uu [.int .u8 47] (l:=1) (c:=1) rfl rfl rfl rfl rfl ?_
  intro h3 p3 x3
  have gT:GroT h3 (n2+1) _ _:=a2.g.ext x3 zs
  have hln:(intN q.num).length≤1922:=Nat.le_trans (zaj hq.1) zo
  have hA:AS h (ctx (k+9) n 0).n0 (.slice none 0 0) h3 (n2+1) [] _ ([]++intN q.num):=⟨by show n≤n2+1;omega,fun b hb _=>(x3 b (by have hb:b<3*n:=hb;omega)).trans ((x2 b (by have hb:b<3*n:=hb;omega)).trans (x1 b hb)),fun b hb=>absurd hb List.not_mem_nil,gT,by rcases a2.or with h|h;exact .inl h;exact .inr (h.mono (Nat.le_succ n))⟩
  refine qq (m:=1) (new:=[47]) rfl rfl rfl rfl rfl rfl rfl rfl rfl zb rfl (wp p3 rfl rfl) (Nat.le_refl _) rfl (by show (([]++intN q.num).length+1)*1≤_;rw [List.nil_append];omega) hA ?_
  intro v' h4 w4 a4 k4
  obtain ⟨a5,rfl⟩:=a4.g.shape
  have hw4:=a4.w_nil
  subst hw4
  have p4:h4 (3*n+2)=_:=(gT.keepB k4 (zX n) zo).trans ((x3 _ zo).trans ((x2 _ zo).trans p1))
  have x13:Ext (n+1) h1 h3:=x2.trans x3 zo
  have hG3:GK.G h3:=rj hG1 x13 zo
  have hG4:GK.G h4:=G_fr hG3 fun b hb hg=>gT.keepB k4 hg zo
  obtain ⟨ej,Lj,hsj,nLj,hvj⟩:=j1.ext x13 (show n+1≤n2+1 by omega)
  have j4:IW h4 (n2+1+1) d e f g (denZ q):=⟨ej,Lj,hsj.kept k4 gT zs,nLj,hvj⟩
  refine zM ?_
  refine zN ?_
  refine zM ?_
  refine zJ (v:=.agg #[.bool d,.slice e f g]) rfl rfl rfl rfl rfl (zB rfl rfl p4 rfl zb rfl) ?_
  refine zM ?_
  refine zu _ rfl rfl rfl rfl rfl (q9 (k+1) hG4 (n:=n2+1+1) zo a4.g (by rw [List.length_append,List.nil_append];simp;omega) j4 (by rw [vv hz,Int.natAbs_natCast];exact hq.2) hm) ?_
  intro v h5 n5 w5 a6
  obtain ⟨a7,rfl⟩:=a6.g.shape
  have hw5:addW (ctx (k+9) n 0).n0 w5 []=[]:=(a4.trans a6).w_nil
  refine ql rfl rfl rfl rfl rfl (tU (B:=[]++intN q.num++[47]++intN (denZ q)) rfl rfl rfl a6.g.text) ?_
  refine zM ?_
  refine zN ?_
  refine retF _ rfl (zi rfl) rfl hw5 ?_
  show Value.string _=_
  rw [List.nil_append,ew hz]
 have hz:denZ q=0:=hz.1 rfl
 rw [zc rfl]
 refine zN ?_
 refine zM ?_
 refine zJ (v:=.agg #[.bool b,.slice a l c]) rfl rfl rfl rfl rfl (zB rfl rfl p1 rfl zb rfl) ?_
 refine yf _ rfl rfl rfl rfl rfl (zak (k+8) i1) ?_
 rintro _ ⟨y,ok,rfl,hy⟩
 refine zM ?_
 refine zM ?_
 refine zM ?_
 refine zM ?_
 refine zM ?_
 refine zN ?_
 refine zM ?_
 refine zN ?_
 cases ok
 ·rw [za rfl]
  refine zN ?_
  refine zM ?_
  refine zJ (v:=.agg #[.bool b,.slice a l c]) rfl rfl rfl rfl rfl (zB rfl rfl p1 rfl zb rfl) ?_
  refine yf _ rfl rfl rfl rfl rfl (fJ k hG1 (n:=n+1) zo i1 hq.1 hm) ?_
  rintro _ rfl
  refine zM ?_
  refine zN ?_
  exact retF _ rfl (zi rfl) rfl rfl (by rw [pM hz];rfl)
 obtain ⟨rfl,hy1,hy2⟩:=hy rfl
 rw [zc rfl]
 refine zN ?_
 refine zM ?_
 refine yf _ rfl rfl rfl rfl rfl (ko (k+4) hG1 (n:=n+1) zo ⟨hy1,hy2⟩) ?_
 rintro _ rfl
 refine zM ?_
 refine zN ?_
 exact retF _ rfl (zi rfl) rfl rfl (by rw [pM hz];rfl)
end
section
set_option maxHeartbeats 1000000
def allN (S:List (List UInt8)):Prop:=∀s∈S,xK s
noncomputable def valQ (p:LPD)(S:List (List UInt8)):Rat:=dotR (p.obj.map zP) ((S.map zP).take (p.obj.map zP).length)
noncomputable def bndQ (p:LPD)(R C:List (List UInt8)):Rat:=sumS (yT p) ((R.map zP).take (yT p).length)+sumS (yY p) ((C.map zP).take (yY p).length)
def feaP (p:LPD)(S:List (List UInt8)):Prop:=inS (yY p) (S.map zP)∧∀d∈yT p,an (S.map zP) d
def bndP (p:LPD)(R C:List (List UInt8)):Prop:=okS (yT p) (R.map zP)∧okS (yY p) (C.map zP)
open Classical in
noncomputable def valV (p:LPD)(S:List (List UInt8)):Value:=
 if VLP p∧allN S then (if S.length=p.obj.length then .tuple #[.string ⟨⟨ratT (valQ p S)⟩⟩,.int .i64 0] else .tuple #[.string ⟨⟨[]⟩⟩,.int .i64 4]) else .tuple #[.string ⟨⟨[]⟩⟩,.int .i64 1]
open Classical in
noncomputable def feaV (p:LPD)(S:List (List UInt8)):Value:=
 if VLP p∧allN S then (if S.length=p.obj.length then .tuple #[.bool (decide (feaP p S)),.int .i64 0] else .tuple #[.bool false,.int .i64 4]) else .tuple #[.bool false,.int .i64 1]
open Classical in
noncomputable def bndV (p:LPD)(R C:List (List UInt8)):Value:=
 if VLP p∧allN R∧allN C then (if R.length=p.rows.length∧C.length=p.obj.length then (if bndP p R C then .tuple #[.string ⟨⟨ratT (bndQ p R C)⟩⟩,.bool true,.int .i64 0] else .tuple #[.string ⟨⟨[]⟩⟩,.bool false,.int .i64 0]) else .tuple #[.string ⟨⟨[]⟩⟩,.bool false,.int .i64 4]) else .tuple #[.string ⟨⟨[]⟩⟩,.bool false,.int .i64 1]
section
variable {p:LPD}{S R C:List (List UInt8)}
theorem zcu (h:¬(VLP p∧allN S)): .tuple #[.string ⟨⟨[]⟩⟩,.int .i64 1]=valV p S:=by unfold valV;rw [if_neg h]
theorem zfb (h:VLP p∧allN S)(h2:S.length≠p.obj.length): .tuple #[.string ⟨⟨[]⟩⟩,.int .i64 4]=valV p S:=by unfold valV;rw [if_pos h,if_neg h2]
theorem zfc (h:VLP p∧allN S)(h2:S.length=p.obj.length): .tuple #[.string ⟨⟨ratT (valQ p S)⟩⟩,.int .i64 0]=valV p S:=by unfold valV;rw [if_pos h,if_pos h2]
theorem zeb (h:¬(VLP p∧allN S)): .tuple #[.bool false,.int .i64 1]=feaV p S:=by unfold feaV;rw [if_neg h]
theorem zgf (h:VLP p∧allN S)(h2:S.length≠p.obj.length): .tuple #[.bool false,.int .i64 4]=feaV p S:=by unfold feaV;rw [if_pos h,if_neg h2]
open Classical in
theorem zgd (h:VLP p∧allN S)(h2:S.length=p.obj.length)(h3:feaP p S): .tuple #[.bool true,.int .i64 0]=feaV p S:=by unfold feaV;rw [if_pos h,if_pos h2,decide_eq_true h3]
open Classical in
theorem zge (h:VLP p∧allN S)(h2:S.length=p.obj.length)(h3:¬feaP p S): .tuple #[.bool false,.int .i64 0]=feaV p S:=by unfold feaV;rw [if_pos h,if_pos h2,decide_eq_false h3]
theorem rg (h:¬(VLP p∧allN R∧allN C)): .tuple #[.string ⟨⟨[]⟩⟩,.bool false,.int .i64 1]=bndV p R C:=by unfold bndV;rw [if_neg h]
theorem bi (h:VLP p∧allN R∧allN C)(h2:¬(R.length=p.rows.length∧C.length=p.obj.length)): .tuple #[.string ⟨⟨[]⟩⟩,.bool false,.int .i64 4]=bndV p R C:=by unfold bndV;rw [if_pos h,if_neg h2]
theorem zgu (h:VLP p∧allN R∧allN C)(h2:R.length=p.rows.length∧C.length=p.obj.length)(h3:bndP p R C): .tuple #[.string ⟨⟨ratT (bndQ p R C)⟩⟩,.bool true,.int .i64 0]=bndV p R C:=by unfold bndV;rw [if_pos h,if_pos h2,if_pos h3]
theorem zgv (h:VLP p∧allN R∧allN C)(h2:R.length=p.rows.length∧C.length=p.obj.length)(h3:¬bndP p R C): .tuple #[.string ⟨⟨[]⟩⟩,.bool false,.int .i64 0]=bndV p R C:=by unfold bndV;rw [if_pos h,if_pos h2,if_neg h3]
end
theorem Txt.nums {b:Nat}{S:List (List UInt8)}(h:∀s∈S,Txt b s):∀q∈S.map zP,Sz b q:=by
 intro q hq
 obtain ⟨s,hs,rfl⟩:=List.mem_map.1 hq
 exact (h s hs).2
theorem VLP.rwb {a:Nat}{p:LPD}(h:VLP p)(hp:LPB a p):RwB a p.obj.length (yT p):=by
 intro d hd
 obtain ⟨r,hr,rfl⟩:=List.mem_map.1 hd
 exact ⟨Txt.nums (hp.rl r hr).2.2.2,by show (r.A.map zP).length≤_;rw [List.length_map,(h.rw r hr).2.2];exact Nat.le_refl _⟩
theorem VLP.cols {p:LPD}(h:VLP p):(yY p).length=p.obj.length:=by rw [mF (h.ll.trans h.lu.symm),h.ll]
end
section
set_option maxHeartbeats 2000000
variable {h h':HF}{b cap k l len lo' m n n' sz:Nat}{S:List (List UInt8)}{v:Value}{c cs:List Value}{e:TypeId}
theorem fI (l:List (List UInt8)):(strs l).length=l.length*1:=by simp [strs]
theorem eH (l:List (List UInt8)):ones (strs l)=true:=by
 induction l with
 |nil=>rfl
 |cons e l ih=>exact ih
theorem zby (k:Nat){a:Option Addr}(hs:Sl h n 1 (.slice a len cap) (strs S))(hb:S.length<1000000):
  CX (cal (k+1)) 27 [.slice a len cap] h n fun v h' n'=>Gr0 h' n n' 9 1 v S.length (strs S):=by
 refine zr (fn:=Tryz.f27) rfl rfl rfl rfl ?_
 have e1:=zm hs
 subst e1
 refine zN ?_
 repeat refine zR ?_
 refine zN ?_
 refine vF (cs:=[]) rfl rfl rfl rfl rfl ?_
 generalize hh:upd h (3*n+2) _=h1
 have hx1:Ext n h h1:=by rw [←hh];exact Ext.upd zo
 clear hh
 refine zM ?_
 refine fQ (lo:=n) rfl rfl rfl rfl rfl rfl rfl rfl zd (.emp (Nat.le_refl _) (Nat.lt_succ_self _)) (ut (hs.ext hx1 zs)) zo (fI _) (eH _) (by show n≤n∧_;omega) ?_
 intro v h3 n3 hn3 hg hx3 _ _
 rw [Nat.zero_add,List.nil_append] at hg
 obtain ⟨av,rfl,_⟩:=hg.shape
 refine zM ?_
 refine zN ?_
 exact retX [.slice av S.length S.length] rfl rfl rfl (show n≤n3 by omega) (hx1.trans hx3 (Nat.le_refl _)) hg
def fitL (l:List (List UInt8))(n:Nat)(s:List UInt8):List (List UInt8):=(l++List.replicate (n-l.length) s).take n
theorem xY (l:List (List UInt8))(n:Nat)(s:List UInt8):(fitL l n s).length=n:=by
 unfold fitL
 rw [List.length_take,List.length_append,List.length_replicate]
 omega
theorem zao {l:List (List UInt8)}{s x:List UInt8}(h:x∈fitL l n s):x∈l∨x=s:=by
 rcases List.mem_append.1 (List.mem_of_mem_take h) with h|h
 ·exact .inl h
 exact .inr (List.eq_of_mem_replicate h)
def SSE (lo:Nat)(h:HF)(n:Nat)(v:Value)(L:List (List UInt8)):Prop:=Sl h n 1 v (strs L)∧∀ad len cap,v=.slice (some ad) len cap→3*lo≤ad.block∧(len≠0→∃cs,h ad.block=some (.row cs 9))
theorem SSE.of_gr0 {lo:Nat}(g:Gr0 h lo n 9 1 v len c){T:List (List UInt8)}(hc:c=strs T)(hm:m≤len){a:Option Addr}(hv:v=.slice a l k):SSE lo h n (.slice a m k) (T.take m):=by
 have ht:∀(x:List Value),x=strs T→x.take m=strs (T.take m):=fun x e=>by rw [e];unfold strs;rw [List.map_take]
 cases g with
 |gro g=>
  cases g with
  |nil=>
   cases hv
   have h0:m=0:=zo
   subst h0
   exact ⟨.nil (.inl rfl),fun ad l c e=>by cases e⟩
  |at_ hg hlo hb hr hl ho=>
   cases hv
   refine ⟨.at_ hb hr rfl hm zo (by rw [List.drop_zero,Nat.mul_one];exact ht _ hc),fun ad l c e=>?_⟩
   cases e
   exact ⟨hlo,fun _=>⟨_,hr⟩⟩
 | @emp m2 hlo hm2=>
  cases hv
  have h0:m=0:=zo
  subst h0
  refine ⟨.nil (.inr ⟨_,_,_,rfl,zo⟩),fun ad l c e=>?_⟩
  cases e
  exact ⟨by show 3*lo≤3*m2+2;omega,fun h=>absurd rfl h⟩
theorem SSE.go {lo:Nat}{L:List (List UInt8)}(s:SSE lo h n v L)(hk:∀b cs,3*lo≤b→b<3*n→h b=some (.row cs 9)→h' b=h b)(hn:n≤n'):SSE lo h' n' v L:=by
 obtain ⟨s,f⟩:=s
 generalize hcl:strs L=cl at s
 cases s with
 |nil ha=>exact ⟨by rw [hcl];exact .nil (vj ha hn),fun ad len cap e=>by cases e;exact ⟨(f _ _ _ rfl).1,fun h=>absurd rfl h⟩⟩
 | @at_ b off len cap x cs cells hb hx hc hcap hl he=>
  by_cases h0:len=0
  ·subst h0
   have h1:cl=[]:=by rw [←he];simp
   subst h1
   exact ⟨by rw [hcl];exact .nil (.inr ⟨_,_,_,rfl,zo⟩),fun ad len cap e=>by cases e;exact ⟨(f _ _ _ rfl).1,fun h=>absurd rfl h⟩⟩
  obtain ⟨f1,f2⟩:=f _ _ _ rfl
  obtain ⟨cs2,f3⟩:=f2 h0
  have f4:=hk _ _ f1 hb f3
  exact ⟨by rw [hcl];exact .at_ zo (f4.trans hx) hc hcap hl he,fun ad len cap e=>by cases e;exact ⟨f1,fun _=>⟨_,f4.trans f3⟩⟩⟩
theorem SSE.ext {lo:Nat}{L:List (List UInt8)}(s:SSE lo h n v L)(x:Ext n h h')(hn:n≤n'):SSE lo h' n' v L:=s.go (fun b _ _ hb _=>x b hb) hn
theorem SSE.x {lo:Nat}{L:List (List UInt8)}(g:SSE lo h n v L)(t:Tx n h n' h'):SSE lo h' n' v L:=g.ext t.2 t.1
theorem SSE.st {lo:Nat}{L:List (List UInt8)}(s:SSE lo h n v L)(_:h b=some (.row cs e))(_:cs.all nu=true)(ho:Only b h h')(hb:b<3*lo):SSE lo h' n v L:=s.go (fun k _ hk _ _=>ho k zo) (Nat.le_refl _)
theorem SSE.sto {lo:Nat}{L:List (List UInt8)}(g:SSE lo h n v L)(o:Sto b h h')(hb:b<3*lo):SSE lo h' n v L:=by
 obtain ⟨o,_,_,hp,hu⟩:=o
 exact g.st hp hu o hb
theorem SSE.ss {lo:Nat}{L:List (List UInt8)}(s:SSE lo h n v L):Sl h n 1 v (strs L):=s.1
theorem SSE.lo {lo:Nat}{L:List (List UInt8)}(s:SSE lo h n v L)(hl:lo'≤lo):SSE lo' h n v L:=⟨s.1,fun ad len cap e=>⟨by have:=(s.2 ad len cap e).1;omega,(s.2 ad len cap e).2⟩⟩
def iZ (lo:Nat)(c:List Value)(d:RowD)(h:HF)(n:Nat):Prop:=∃a l k,c=[.slice a l k,.string ⟨⟨d.lo⟩⟩,.string ⟨⟨d.hi⟩⟩]∧SSE lo h n (.slice a l k) d.A
structure GRW (lo:Nat)(h:HF)(n:Nat)(v:Value)(ds:List RowD):Prop where
 ex:∃C,Gro h lo n 45 3 v ds.length C∧Rec 3 (fun c d=>iZ lo c d h n) C ds
theorem GRW.nil (lo:Nat)(h:HF)(n:Nat):GRW lo h n (.slice none 0 0) []:=⟨[],.nil,.nil⟩
theorem GRW.ext {lo:Nat}{ds:List RowD}(g:GRW lo h n v ds)(x:Ext n h h')(hn:n≤n'):GRW lo h' n' v ds:=by
 obtain ⟨C,h1,h2⟩:=g.ex
 exact ⟨C,h1.ext x hn,h2.mono fun c d ⟨a,l,k,e,s⟩=>⟨a,l,k,e,s.ext x hn⟩⟩
theorem GRW.x {lo:Nat}{ds:List RowD}(g:GRW lo h n v ds)(t:Tx n h n' h'):GRW lo h' n' v ds:=g.ext t.2 t.1
theorem GRW.st {lo:Nat}{ds:List RowD}(g:GRW lo h n v ds)(hp:h b=some (.row cs e))(hu:cs.all nu=true)(ho:Only b h h')(hb:b<3*lo):GRW lo h' n v ds:=by
 obtain ⟨C,h1,h2⟩:=g.ex
 exact ⟨C,h1.same fun k hk _ _=>ho k zo,h2.mono fun c d ⟨a,l,k,e,s⟩=>⟨a,l,k,e,s.st hp hu ho hb⟩⟩
theorem GRW.sto {lo:Nat}{ds:List RowD}(g:GRW lo h n v ds)(o:Sto b h h')(hb:b<3*lo):GRW lo h' n v ds:=by
 obtain ⟨o,_,_,hp,hu⟩:=o
 exact g.st hp hu o hb
theorem GRW.lo {lo:Nat}{ds:List RowD}(g:GRW lo h n v ds)(hl:lo'≤lo):GRW lo' h n v ds:=by
 obtain ⟨C,h1,h2⟩:=g.ex
 refine ⟨C,?_,h2.mono fun c d ⟨a,l,k,e,s⟩=>⟨a,l,k,e,s.lo hl⟩⟩
 generalize ds.length=m at h1 ⊢
 cases h1 with
 |nil=>exact .nil
 |at_ hg hlo hb hr hl2 ho=>exact .at_ hg zo hb hr hl2 ho
theorem GRW.rws {lo:Nat}{ds:List RowD}(g:GRW lo h n v ds):RWS h n v ds:=by
 obtain ⟨C,h1,h2⟩:=g.ex
 exact ⟨C,h1.sl,h2.mono fun c d ⟨a,l,k,e,s⟩=>⟨a,l,k,e,s.1⟩⟩
theorem SSE.keep {lo lo2:Nat}{u:Value}{L:List (List UInt8)}{C:List Value}(s:SSE lo h n v L)(g:Gro h lo2 n 45 3 u len C)(k:Keep u n h h')(hn:n≤n'):SSE lo h' n' v L:=
 s.go (fun b cs hb hb2 hr=>by
  refine k b hb2 fun o l c e=>?_
  cases g with
  |nil=>cases e
  |at_ hg hlo hb3 hr2 hl2 ho=>
   cases e
   rw [hr] at hr2
   injection hr2 with hr2
   injection hr2 with _ hr2
   exact absurd hr2 zd) hn
theorem GRW.app {lo:Nat}{v':Value}{ds:List RowD}{d:RowD}{C:List Value}(h1:Gro h lo n 45 3 v ds.length C)(h2:Rec 3 (fun c d=>iZ lo c d h n) C ds)(s:iZ lo c d h n)(k:Keep v n h h')(g:Gro h' lo (n+1) 45 3 v' (ds.length+1) (C++c)):GRW lo h' (n+1) v' (ds++[d]):=by
 have hk:∀c d,iZ lo c d h n→iZ lo c d h' (n+1):=fun c d ⟨a,l,m,e,s⟩=>⟨a,l,m,e,s.keep h1 k zs⟩
 refine ⟨C++c,by rw [List.length_append];exact g,(h2.mono hk).snoc ?_ (hk _ _ s)⟩
 obtain ⟨a,l,m,rfl,_⟩:=s
 rfl
theorem Gr0.slice {lo:Nat}{a:Option Addr}(g:Gr0 h lo n e sz (.slice a l k) len c):l=len∧k=len∧(a=none∨∃b,a=some ⟨b,0,none⟩):=by
 cases g with
 |gro g=>
  cases g with
  |nil=>exact ⟨rfl,rfl,.inl rfl⟩
  |at_ hg hlo hb hr hl ho=>exact ⟨rfl,rfl,.inr ⟨_,rfl⟩⟩
 |emp hlo hm=>exact ⟨rfl,rfl,.inr ⟨_,rfl⟩⟩
theorem pU (k:Nat){a:Option Addr}(hs:Sl h n 1 (.slice a len cap) (strs S))(hb:S.length<1000000)(hm:m<1000000)(s:List UInt8):
  CX (cal (k+2)) 10 [.slice a len cap,.int .i64 (m:Int),.string ⟨⟨s⟩⟩] h n fun v h' n'=>∃a c,v=.slice a m c∧SSE n h' n' (.slice a m c) (fitL S m s):=by
 refine zr (fn:=Tryz.f10) rfl rfl rfl rfl ?_
 have e1:=zm hs
 subst e1
 refine zN ?_
 repeat refine zR ?_
 refine zN ?_
 refine zM ?_
 refine oh rfl rfl rfl rfl rfl (zby k hs hb) ?_
 intro v h1 n1 g1 hn1 x1
 obtain ⟨a1,rfl,_⟩:=g1.shape
 refine zM ?_
 refine zN ?_
 refine zV (α:=Option Addr×Nat) (fun z=>[(1,.int .i64 (m:Int)),(2,.string ⟨⟨s⟩⟩),(7,.slice z.1 (S.length+z.2) (S.length+z.2))]) (fun z h' n' w'=>w'=[]∧n≤n'∧Ext n h h'∧Gr0 h' n n' 9 1 (.slice z.1 (S.length+z.2) (S.length+z.2)) (S.length+z.2) (strs (S++List.replicate z.2 s))∧(z.2=0∨S.length+z.2≤m)) (fun z=>m-(S.length+z.2))
  (a1,0) ⟨rfl,rfl,rfl,trivial⟩ ⟨rfl,hn1,x1,by rw [List.replicate_zero,List.append_nil];exact g1,.inl rfl⟩ (by show m-(S.length+0)<LL;unfold LL;omega) ?_
 rintro ⟨av,j⟩ t h2 n2 _ ⟨rfl,hn2,x2,g2,hj⟩
 simp only at g2 hj
 refine zN ?_
 by_cases hc:S.length+j<m
 ·repeat refine zR ?_
  refine zN ?_
  rw [zc rfl]
  refine zN ?_
  refine zM ?_
  refine zM ?_
  refine uu [.string ⟨⟨s⟩⟩] (l:=1) (c:=1) rfl rfl rfl rfl rfl ?_
  intro h3 p3 x3
  refine fQ (lo:=n) (m:=1) rfl rfl rfl rfl rfl rfl rfl rfl zd (g2.ext x3 zs) (wp p3 rfl rfl) zo rfl rfl (by show n≤n∧_;omega) ?_
  intro v h4 n4 hn4 g4 x4 _ _
  obtain ⟨a4,rfl,_⟩:=g4.shape
  refine zM ?_
  refine zN ?_
  refine goOn (a4,j+1) (by show m-(S.length+(j+1))<m-(S.length+j);omega) ⟨rfl,rfl,rfl,trivial⟩ ⟨rfl,(by show n≤n4;have:n2+1≤n4:=hn4;omega),(x2.trans (x3.mono hn2) (Nat.le_refl _)).trans x4 (Nat.le_refl _),?_,.inr (by show S.length+(j+1)≤m;omega)⟩
  rw [List.replicate_succ',←List.append_assoc,lh]
  exact g4
 repeat refine zR ?_
 refine zN ?_
 rw [za rfl]
 refine zN ?_
 refine zM ?_
 refine zM ?_
 have hf:(S++List.replicate j s).take m=fitL S m s:=by
  unfold fitL
  rcases hj with hj|hj
  ·subst hj;rw [show m-S.length=0 by omega]
  rw [show m-S.length=j by omega]
 have hr:=SSE.of_gr0 g2 rfl (m:=m) zo rfl
 rw [hf] at hr
 rcases g2.slice.2.2 with e|⟨b,e⟩
 ·subst e
  refine lj m rfl rfl rfl rfl rfl rfl rfl rfl rfl zo ?_
  refine zM ?_
  refine zN ?_
  exact retX [.slice none m (S.length+j)] rfl rfl rfl hn2 x2 ⟨_,_,rfl,hr⟩
 subst e
 refine vE m rfl rfl rfl rfl rfl rfl rfl rfl rfl zo ?_
 refine zM ?_
 refine zN ?_
 exact retX [.slice (some ⟨b,0,none⟩) m (S.length+j)] rfl rfl rfl hn2 x2 ⟨_,_,rfl,hr⟩
end
section
set_option maxHeartbeats 4000000
variable {h:HF}{a b co cr cu cw cx lo lr lu lw lx n:Nat}{ao ar au aw ax:Option Addr}{p:LPD}{S:List (List UInt8)}
theorem fv (k:Nat)(g:GG h n)(io:Sl h n 1 (.slice ao lo co) (strs p.obj))(ir:RWS h n (.slice ar lr cr) p.rows)(iw:Sl h n 1 (.slice aw lw cw) (strs p.lower))(iu:Sl h n 1 (.slice au lu cu) (strs p.upper))(hp:LPB a p)(ha:a+a≤2000):VF (cal (k+13)) 17 [.agg #[.slice ao lo co,.slice ar lr cr,.slice aw lw cw,.slice au lu cu]] h n fun v=>∃b:Bool,v=.bool b∧(b=true↔VLP p):=by
 have lo1:=zm io
 have lr1:=ir.len
 have lw1:=zm iw
 have lu1:=zm iu
 refine zA (fn:=Tryz.f17) rfl rfl rfl rfl ?_
 refine zG ?_
 refine sB [.slice ao lo co,.slice ar lr cr,.slice aw lw cw,.slice au lu cu] ?_
 intro h11 p11 x11
 refine zG ?_
 refine sC (zdj _ (g.x zx) (io.x zx) (ir.x zx) (iw.x zx) (iu.x zx) hp ha) ?_
 rintro _ h12 n12 ⟨aO12,lO12,kO12,aR12,lR12,kR12,aC12,lC12,kC12,ok12,rfl,bm12,q12⟩ y12 x12
 rcases bvs bm12 with ⟨rfl,m12⟩|⟨rfl,m12⟩
 ·refine zG ?_
  refine sA ?_
  intro h13 p13 x13
  refine sS [.slice aO12 lO12 kO12,.slice aR12 lR12 kR12,.slice aC12 lC12 kC12] ?_
  intro h14 p14 o14
  refine zG ?_
  refine zf ?_
  exact ⟨_,rfl,⟨fun hq=>(by cases hq),fun hq=>absurd hq m12⟩⟩
 obtain ⟨iO12,iR12,iC12⟩:=q12 rfl
 refine zG ?_
 refine sA ?_
 intro h15 p15 x15
 refine sS [.slice aO12 lO12 kO12,.slice aR12 lR12 kR12,.slice aC12 lC12 kC12] ?_
 intro h16 p16 o16
 refine zG ?_
 refine zf ?_
 exact ⟨_,rfl,⟨fun _=>m12,fun _=>rfl⟩⟩
theorem pK (k:Nat)(g:GG h n)(io:Sl h n 1 (.slice ao lo co) (strs p.obj))(ir:RWS h n (.slice ar lr cr) p.rows)(iw:Sl h n 1 (.slice aw lw cw) (strs p.lower))(iu:Sl h n 1 (.slice au lu cu) (strs p.upper))(hp:LPB a p)(ha:a+a≤2000)(ix:Sl h n 1 (.slice ax lx cx) (strs S))(hS:∀s∈S,Txt b s)(hSl:S.length<1000000):CX (cal (k+13)) 28 [.agg #[.slice ao lo co,.slice ar lr cr,.slice aw lw cw,.slice au lu cu],.slice ax lx cx] h n fun v h' n'=>∃aO lO kO aR lR kR aC lC kC aX lX kX e,v=.tuple #[.agg #[.slice aO lO kO,.slice aR lR kR,.slice aC lC kC],.slice aX lX kX,.int .i64 e]∧(e=1∧¬(VLP p∧allN S)∨e=4∧(VLP p∧allN S)∧S.length≠p.obj.length∨e=0∧(VLP p∧allN S)∧S.length=p.obj.length∧QS h' n' (.slice aO lO kO) (p.obj.map zP)∧SDS h' n' (.slice aR lR kR) (yT p)∧SDS h' n' (.slice aC lC kC) (yY p)∧QS h' n' (.slice aX lX kX) (S.map zP)):=by
 have lo1:=zm io
 have lr1:=ir.len
 have lw1:=zm iw
 have lu1:=zm iu
 have lx1:=zm ix
 refine zr (fn:=Tryz.f28) rfl rfl rfl rfl ?_
 refine zG ?_
 refine sB [.slice ao lo co,.slice ar lr cr,.slice aw lw cw,.slice au lu cu] ?_
 intro h11 p11 x11
 refine sA ?_
 intro h12 p12 x12
 refine zG ?_
 refine sC (zdj _ (g.x zx) (io.x zx) (ir.x zx) (iw.x zx) (iu.x zx) hp ha) ?_
 rintro _ h13 n13 ⟨aO13,lO13,kO13,aR13,lR13,kR13,aC13,lC13,kC13,ok13,rfl,bm13,q13⟩ y13 x13
 rcases bvs bm13 with ⟨rfl,m13⟩|⟨rfl,m13⟩
 ·refine zG ?_
  refine sA ?_
  intro h14 p14 x14
  refine sS [.slice aO13 lO13 kO13,.slice aR13 lR13 kR13,.slice aC13 lC13 kC13] ?_
  intro h15 p15 o15
  refine zG ?_
  refine sC (xV _ (g.x zx) (ix.x zx) (fun s hs=>(hS s hs).1) hSl) ?_
  rintro _ h16 n16 ⟨a16,l16,c16,ok16,rfl,bm16,q16⟩ y16 x16
  rcases bvs bm16 with ⟨rfl,m16⟩|⟨rfl,m16⟩
  ·refine zG ?_
   refine sT #[.slice none 0 0,.slice none 0 0,.slice none 0 0] ?_
   refine sS [.slice none 0 0,.slice none 0 0,.slice none 0 0] ?_
   intro h17 p17 o17
   refine zG ?_
   refine zq ?_
   exact ⟨_,_,_,_,_,_,_,_,_,_,_,_,_,rfl,.inl ⟨rfl,fun hq=>absurd hq.1 m13⟩⟩
  have i16:=q16 rfl
  have w16:=i16.1.len
  rw [List.length_map] at w16
  refine zG ?_
  refine sT #[.slice none 0 0,.slice none 0 0,.slice none 0 0] ?_
  refine sS [.slice none 0 0,.slice none 0 0,.slice none 0 0] ?_
  intro h18 p18 o18
  have i19:=i16.sto o18 zo
  refine zG ?_
  refine zq ?_
  exact ⟨_,_,_,_,_,_,_,_,_,_,_,_,_,rfl,.inl ⟨rfl,fun hq=>absurd hq.1 m13⟩⟩
 obtain ⟨iO13,iR13,iC13⟩:=q13 rfl
 refine zG ?_
 refine sA ?_
 intro h20 p20 x20
 refine sS [.slice aO13 lO13 kO13,.slice aR13 lR13 kR13,.slice aC13 lC13 kC13] ?_
 intro h21 p21 o21
 refine zG ?_
 refine sC (xV _ (g.x zx) (ix.x zx) (fun s hs=>(hS s hs).1) hSl) ?_
 rintro _ h22 n22 ⟨a22,l22,c22,ok22,rfl,bm22,q22⟩ y22 x22
 rcases bvs bm22 with ⟨rfl,m22⟩|⟨rfl,m22⟩
 ·refine zG ?_
  refine sT #[.slice none 0 0,.slice none 0 0,.slice none 0 0] ?_
  refine sS [.slice none 0 0,.slice none 0 0,.slice none 0 0] ?_
  intro h23 p23 o23
  have i24:=(iO13.x zx).sto o23 zo
  have i25:=(iR13.x zx).sto o23 zo
  have i26:=(iC13.x zx).sto o23 zo
  refine zG ?_
  refine zq ?_
  exact ⟨_,_,_,_,_,_,_,_,_,_,_,_,_,rfl,.inl ⟨rfl,fun hq=>absurd hq.2 m22⟩⟩
 have i22:=q22 rfl
 have w22:=i22.1.len
 rw [List.length_map] at w22
 refine zG ?_
 by_cases q27:(lx:Int)=(lo:Int)
 ·refine zG ?_
  refine sS [.slice aO13 lO13 kO13,.slice aR13 lR13 kR13,.slice aC13 lC13 kC13] ?_
  intro h28 p28 o28
  have i29:=(iO13.x zx).sto o28 zo
  have i30:=(iR13.x zx).sto o28 zo
  have i31:=(iC13.x zx).sto o28 zo
  have i32:=i22.sto o28 zo
  refine zG ?_
  refine zq ?_
  exact ⟨_,_,_,_,_,_,_,_,_,_,_,_,_,rfl,.inr (.inr ⟨rfl,⟨m13,m22⟩,zo,i29.1,i30.sds,i31.sds,i32.1⟩)⟩
 refine zG ?_
 refine sT #[.slice none 0 0,.slice none 0 0,.slice none 0 0] ?_
 refine sS [.slice none 0 0,.slice none 0 0,.slice none 0 0] ?_
 intro h33 p33 o33
 have i34:=(iO13.x zx).sto o33 zo
 have i35:=(iR13.x zx).sto o33 zo
 have i36:=(iC13.x zx).sto o33 zo
 have i37:=i22.sto o33 zo
 refine zG ?_
 refine zq ?_
 exact ⟨_,_,_,_,_,_,_,_,_,_,_,_,_,rfl,.inr (.inl ⟨rfl,⟨m13,m22⟩,zo⟩)⟩
end
section
set_option maxHeartbeats 4000000
variable {a b co cr cu cw cx cy cz lo lr lu lw lx ly lz n:Nat}{p:LPD}{R S:List (List UInt8)}{h:HF}{ao ar au aw ax ay az:Option Addr}
theorem fA (hp:∀s∈p.obj,Txt a s)(hS:∀s∈S,Txt b s)(hl:p.obj.length≤S.length):Sz (1+p.obj.length*(a+b+1)) (valQ p S):=by
 have h:=qS (Txt.nums hp) (Txt.nums hS) (p.obj.map zP).length (Nat.le_refl _) (by rw [List.length_map,List.length_map];exact hl)
 rw [List.take_length,List.length_map] at h
 unfold valQ
 rw [List.length_map]
 exact h.mono zo
theorem zbo (k:Nat)(g:GG h n)(io:Sl h n 1 (.slice ao lo co) (strs p.obj))(ir:RWS h n (.slice ar lr cr) p.rows)(iw:Sl h n 1 (.slice aw lw cw) (strs p.lower))(iu:Sl h n 1 (.slice au lu cu) (strs p.upper))(hp:LPB a p)(ha:a+a≤2000)(ix:Sl h n 1 (.slice ax lx cx) (strs S))(hS:∀s∈S,Txt b s)(hSl:S.length<1000000)(hL:p.obj.length*(a+b+1)+a+b+2≤1900):VF (cal (k+14)) 11 [.agg #[.slice ao lo co,.slice ar lr cr,.slice aw lw cw,.slice au lu cu],.slice ax lx cx] h n fun v=>v=valV p S:=by
 have lo1:=zm io
 have lr1:=ir.len
 have lw1:=zm iw
 have lu1:=zm iu
 have lx1:=zm ix
 refine zA (fn:=Tryz.f11) rfl rfl rfl rfl ?_
 refine zG ?_
 refine sB [.slice ao lo co,.slice ar lr cr,.slice aw lw cw,.slice au lu cu] ?_
 intro h11 p11 x11
 refine zG ?_
 refine sC (pK _ (g.x zx) (io.x zx) (ir.x zx) (iw.x zx) (iu.x zx) hp ha (ix.x zx) hS hSl) ?_
 rintro _ h12 n12 ⟨aO12,lO12,kO12,aR12,lR12,kR12,aC12,lC12,kC12,aX12,lX12,kX12,e12,rfl,m12⟩ y12 x12
 rcases m12 with ⟨rfl,m12⟩|⟨rfl,m12,l12⟩|⟨rfl,m12,l12,iO12,iR12,iC12,iX12⟩
 ·refine zG ?_
  refine sA ?_
  intro h13 p13 x13
  refine sS [.slice aO12 lO12 kO12,.slice aR12 lR12 kR12,.slice aC12 lC12 kC12] ?_
  intro h14 p14 o14
  refine zG ?_
  refine zf ?_
  exact zcu m12
 ·refine zG ?_
  refine sA ?_
  intro h15 p15 x15
  refine sS [.slice aO12 lO12 kO12,.slice aR12 lR12 kR12,.slice aC12 lC12 kC12] ?_
  intro h16 p16 o16
  refine zG ?_
  refine zf ?_
  exact zfb m12 l12
 refine zG ?_
 refine sA ?_
 intro h17 p17 x17
 refine sS [.slice aO12 lO12 kO12,.slice aR12 lR12 kR12,.slice aC12 lC12 kC12] ?_
 intro h18 p18 o18
 refine zG ?_
 refine sC (dotQ _ (g.x zx) (iO12.x zx) (iX12.x zx) (Txt.nums hp.ob) (Txt.nums hS) (by rw [List.length_map,List.length_map];omega) (by rw [List.length_map];omega)) ?_
 rintro _ h19 n19 ⟨b19,a19,l19,c19,d19,e19,f19,g19,rfl,i19,j19⟩ y19 x19
 refine sC ((rz _ (g.x zx).1 (g.x zx).2 i19 j19 (fA hp.ob hS zo) zo).cx) ?_
 rintro _ h20 n20 rfl y20 x20
 refine zG ?_
 refine zf ?_
 exact zfc m12 l12
theorem zgc (k:Nat)(g:GG h n)(io:Sl h n 1 (.slice ao lo co) (strs p.obj))(ir:RWS h n (.slice ar lr cr) p.rows)(iw:Sl h n 1 (.slice aw lw cw) (strs p.lower))(iu:Sl h n 1 (.slice au lu cu) (strs p.upper))(hp:LPB a p)(ha:a+a≤2000)(ix:Sl h n 1 (.slice ax lx cx) (strs S))(hS:∀s∈S,Txt b s)(hSl:S.length<1000000)(hL:p.obj.length*(a+b+1)+a+b+2≤1900)(ha2:a≤90):VF (cal (k+14)) 13 [.agg #[.slice ao lo co,.slice ar lr cr,.slice aw lw cw,.slice au lu cu],.slice ax lx cx] h n fun v=>v=feaV p S:=by
 have lo1:=zm io
 have lr1:=ir.len
 have lw1:=zm iw
 have lu1:=zm iu
 have lx1:=zm ix
 refine zA (fn:=Tryz.f13) rfl rfl rfl rfl ?_
 refine zG ?_
 refine sB [.slice ao lo co,.slice ar lr cr,.slice aw lw cw,.slice au lu cu] ?_
 intro h11 p11 x11
 refine zG ?_
 refine sC (pK _ (g.x zx) (io.x zx) (ir.x zx) (iw.x zx) (iu.x zx) hp ha (ix.x zx) hS hSl) ?_
 rintro _ h12 n12 ⟨aO12,lO12,kO12,aR12,lR12,kR12,aC12,lC12,kC12,aX12,lX12,kX12,e12,rfl,m12⟩ y12 x12
 rcases m12 with ⟨rfl,m12⟩|⟨rfl,m12,l12⟩|⟨rfl,m12,l12,iO12,iR12,iC12,iX12⟩
 ·refine zG ?_
  refine sA ?_
  intro h13 p13 x13
  refine sS [.slice aO12 lO12 kO12,.slice aR12 lR12 kR12,.slice aC12 lC12 kC12] ?_
  intro h14 p14 o14
  refine zG ?_
  refine zf ?_
  exact zeb m12
 ·refine zG ?_
  refine sA ?_
  intro h15 p15 x15
  refine sS [.slice aO12 lO12 kO12,.slice aR12 lR12 kR12,.slice aC12 lC12 kC12] ?_
  intro h16 p16 o16
  refine zG ?_
  refine zf ?_
  exact zgf m12 l12
 refine zG ?_
 refine sA ?_
 intro h17 p17 x17
 refine sS [.slice aO12 lO12 kO12,.slice aR12 lR12 kR12,.slice aC12 lC12 kC12] ?_
 intro h18 p18 o18
 refine zG ?_
 refine sC ((zhp _ (g.x zx) (iO12.x zx) (iR12.x zx) (iC12.x zx) (iX12.x zx) (LPB.rows hp) (LPB.cols hp) (m12.1.rwb hp) (Txt.nums hS) (by rw [List.length_map,m12.1.cols];omega) (by rw [List.length_map];omega) ⟨by rw [m12.1.cols];exact hp.n1,by rw [wQ];exact hp.n2⟩ hL zo).cx) ?_
 rintro _ h19 n19 ⟨b19,rfl,bq19⟩ y19 x19
 rcases bvs bq19 with ⟨rfl,q19⟩|⟨rfl,q19⟩
 ·refine zG ?_
  refine zf ?_
  exact zge m12 l12 q19
 refine zG ?_
 refine zf ?_
 exact zgd m12 l12 q19
theorem bj {C:List (List UInt8)}(hv:VLP p)(hp:LPB a p)(hR:∀s∈R,Txt b s)(hC:∀s∈C,Txt b s)(hl:R.length=p.rows.length∧C.length=p.obj.length):Sz (1+p.rows.length*(a+b+1)+p.obj.length*(a+b+1)) (bndQ p R C):=by
 have h1:=tX (LPB.rows hp) (Txt.nums hR) (yT p).length (Nat.le_refl _) (by rw [List.length_map,wQ];omega)
 rw [List.take_length,wQ] at h1
 have h2:=oq (LPB.cols hp) (Txt.nums hC) h1 (yY p).length (Nat.le_refl _) (by rw [List.length_map,hv.cols];omega)
 rw [List.take_length,hv.cols] at h2
 unfold bndQ
 rw [wQ,hv.cols]
 exact h2.mono zo
theorem zcp (k:Nat)(g:GG h n)(io:Sl h n 1 (.slice ao lo co) (strs p.obj))(ir:RWS h n (.slice ar lr cr) p.rows)(iw:Sl h n 1 (.slice aw lw cw) (strs p.lower))(iu:Sl h n 1 (.slice au lu cu) (strs p.upper))(hp:LPB a p)(ha:a+a≤2000){C:List (List UInt8)}(iy:Sl h n 1 (.slice ay ly cy) (strs R))(iz:Sl h n 1 (.slice az lz cz) (strs C))(hR:∀s∈R,Txt b s)(hRl:R.length<1000000)(hC:∀s∈C,Txt b s)(hCl:C.length<1000000)(hL:p.rows.length*(a+b+1)+p.obj.length*(a+b+1)+a+b+2≤1900):VF (cal (k+13)) 15 [.agg #[.slice ao lo co,.slice ar lr cr,.slice aw lw cw,.slice au lu cu],.slice ay ly cy,.slice az lz cz] h n fun v=>v=bndV p R C:=by
 have lo1:=zm io
 have lr1:=ir.len
 have lw1:=zm iw
 have lu1:=zm iu
 have ly1:=zm iy
 have lz1:=zm iz
 refine zA (fn:=Tryz.f15) rfl rfl rfl rfl ?_
 refine zG ?_
 refine sB [.slice ao lo co,.slice ar lr cr,.slice aw lw cw,.slice au lu cu] ?_
 intro h11 p11 x11
 refine zG ?_
 refine sC (zdj _ (g.x zx) (io.x zx) (ir.x zx) (iw.x zx) (iu.x zx) hp ha) ?_
 rintro _ h12 n12 ⟨aO12,lO12,kO12,aR12,lR12,kR12,aC12,lC12,kC12,ok12,rfl,bm12,q12⟩ y12 x12
 rcases bvs bm12 with ⟨rfl,m12⟩|⟨rfl,m12⟩
 ·refine zG ?_
  refine sA ?_
  intro h13 p13 x13
  refine sS [.slice aO12 lO12 kO12,.slice aR12 lR12 kR12,.slice aC12 lC12 kC12] ?_
  intro h14 p14 o14
  refine zG ?_
  refine sC (xV _ (g.x zx) (iy.x zx) (fun s hs=>(hR s hs).1) hRl) ?_
  rintro _ h15 n15 ⟨a15,l15,c15,ok15,rfl,bm15,q15⟩ y15 x15
  rcases bvs bm15 with ⟨rfl,m15⟩|⟨rfl,m15⟩
  ·refine zG ?_
   refine sC (xV _ (g.x zx) (iz.x zx) (fun s hs=>(hC s hs).1) hCl) ?_
   rintro _ h16 n16 ⟨a16,l16,c16,ok16,rfl,bm16,q16⟩ y16 x16
   rcases bvs bm16 with ⟨rfl,m16⟩|⟨rfl,m16⟩
   ·refine zG ?_
    refine zf ?_
    exact rg (fun hq=>absurd hq.1 m12)
   have i16:=q16 rfl
   have w16:=i16.1.len
   rw [List.length_map] at w16
   refine zG ?_
   refine zf ?_
   exact rg (fun hq=>absurd hq.1 m12)
  have i15:=q15 rfl
  have w15:=i15.1.len
  rw [List.length_map] at w15
  refine zG ?_
  refine sC (xV _ (g.x zx) (iz.x zx) (fun s hs=>(hC s hs).1) hCl) ?_
  rintro _ h17 n17 ⟨a17,l17,c17,ok17,rfl,bm17,q17⟩ y17 x17
  rcases bvs bm17 with ⟨rfl,m17⟩|⟨rfl,m17⟩
  ·refine zG ?_
   refine zf ?_
   exact rg (fun hq=>absurd hq.1 m12)
  have i17:=q17 rfl
  have w17:=i17.1.len
  rw [List.length_map] at w17
  refine zG ?_
  refine zf ?_
  exact rg (fun hq=>absurd hq.1 m12)
 obtain ⟨iO12,iR12,iC12⟩:=q12 rfl
 refine zG ?_
 refine sA ?_
 intro h18 p18 x18
 refine sS [.slice aO12 lO12 kO12,.slice aR12 lR12 kR12,.slice aC12 lC12 kC12] ?_
 intro h19 p19 o19
 refine zG ?_
 refine sC (xV _ (g.x zx) (iy.x zx) (fun s hs=>(hR s hs).1) hRl) ?_
 rintro _ h20 n20 ⟨a20,l20,c20,ok20,rfl,bm20,q20⟩ y20 x20
 rcases bvs bm20 with ⟨rfl,m20⟩|⟨rfl,m20⟩
 ·refine zG ?_
  refine sC (xV _ (g.x zx) (iz.x zx) (fun s hs=>(hC s hs).1) hCl) ?_
  rintro _ h21 n21 ⟨a21,l21,c21,ok21,rfl,bm21,q21⟩ y21 x21
  rcases bvs bm21 with ⟨rfl,m21⟩|⟨rfl,m21⟩
  ·refine zG ?_
   refine zf ?_
   exact rg (fun hq=>absurd hq.2.1 m20)
  have i21:=q21 rfl
  have w21:=i21.1.len
  rw [List.length_map] at w21
  refine zG ?_
  refine zf ?_
  exact rg (fun hq=>absurd hq.2.1 m20)
 have i20:=q20 rfl
 have w20:=i20.1.len
 rw [List.length_map] at w20
 refine zG ?_
 refine sC (xV _ (g.x zx) (iz.x zx) (fun s hs=>(hC s hs).1) hCl) ?_
 rintro _ h22 n22 ⟨a22,l22,c22,ok22,rfl,bm22,q22⟩ y22 x22
 rcases bvs bm22 with ⟨rfl,m22⟩|⟨rfl,m22⟩
 ·refine zG ?_
  refine zf ?_
  exact rg (fun hq=>absurd hq.2.2 m22)
 have i22:=q22 rfl
 have w22:=i22.1.len
 rw [List.length_map] at w22
 refine zG ?_
 by_cases q23:(ly:Int)=(lr:Int)
 ·refine zG ?_
  by_cases q24:(lz:Int)=(lo:Int)
  ·refine zG ?_
   refine sC (zgs _ (g.x zx) (iO12.x zx).1 (iR12.x zx).sds (iC12.x zx).sds (i20.x zx).1 i22.1 (LPB.rows hp) (LPB.cols hp) (Txt.nums hR) (Txt.nums hC) (by rw [List.length_map,wQ];omega) (by rw [List.length_map,m12.cols];omega) (by rw [wQ,m12.cols];omega)) ?_
   rintro _ h25 n25 ⟨b25,a25,l25,c25,d25,e25,f25,g25,ok25,rfl,bm25,q25⟩ y25 x25
   rcases bvs bm25 with ⟨rfl,m25⟩|⟨rfl,m25⟩
   ·refine zG ?_
    refine sA ?_
    intro h26 p26 x26
    refine sS [.bool b25,.slice a25 l25 c25,.bool d25,.slice e25 f25 g25] ?_
    intro h27 p27 o27
    refine zG ?_
    refine zf ?_
    exact zgv ⟨m12,m20,m22⟩ zo m25
   obtain ⟨i25,j25⟩:=q25 rfl
   have i25:IW h25 n25 b25 a25 l25 c25 (bndQ p R C).num:=i25
   have j25:IW h25 n25 d25 e25 f25 g25 (denZ (bndQ p R C)):=j25
   refine zG ?_
   refine sA ?_
   intro h28 p28 x28
   refine sS [.bool b25,.slice a25 l25 c25,.bool d25,.slice e25 f25 g25] ?_
   intro h29 p29 o29
   refine zG ?_
   refine sC ((rz _ (g.x zx).1 (g.x zx).2 (i25.t zt) (j25.t zt) (bj m12 hp hR hC zo) zo).cx) ?_
   rintro _ h30 n30 rfl y30 x30
   refine zG ?_
   refine zf ?_
   exact zgu ⟨m12,m20,m22⟩ zo m25
  refine zG ?_
  refine zf ?_
  exact bi ⟨m12,m20,m22⟩ zo
 refine zG ?_
 refine zf ?_
 exact bi ⟨m12,m20,m22⟩ zo
end
section
set_option maxHeartbeats 4000000
variable {h:HF}{a b co cr cu cw cx cy cz lo lr lu lw lx ly lz n:Nat}{ao ar au aw ax ay az:Option Addr}{p:LPD}{R S:List (List UInt8)}
theorem zbn (k:Nat)(io:Sl h n 1 (.slice ao lo co) (strs p.obj))(ir:RWS h n (.slice ar lr cr) p.rows)(iw:Sl h n 1 (.slice aw lw cw) (strs p.lower))(iu:Sl h n 1 (.slice au lu cu) (strs p.upper))(hp:LPB a p)(ha:a+a≤2000)(ix:Sl h n 1 (.slice ax lx cx) (strs S))(hS:∀s∈S,Txt b s)(hSl:S.length<1000000)(hL:p.obj.length*(a+b+1)+a+b+2≤1900):VF (cal (k+11)) 12 [.agg #[.slice ao lo co,.slice ar lr cr,.slice aw lw cw,.slice au lu cu],.slice ax lx cx] h n fun v=>v=valV p S:=by
 have lo1:=zm io
 have lr1:=ir.len
 have lw1:=zm iw
 have lu1:=zm iu
 have lx1:=zm ix
 refine zA (fn:=Tryz.f12) rfl rfl rfl rfl ?_
 refine zG ?_
 refine sB [.slice ao lo co,.slice ar lr cr,.slice aw lw cw,.slice au lu cu] ?_
 intro h11 p11 x11
 refine zG ?_
 refine sC ((tw _ (io.x zx) (ir.x zx) (iw.x zx) (iu.x zx) hp ha).cx) ?_
 rintro _ h12 n12 ⟨b12,rfl,bq12⟩ y12 x12
 rcases bvs bq12 with ⟨rfl,q12⟩|⟨rfl,q12⟩
 ·refine zG ?_
  refine zf ?_
  exact zcu (fun hq=>absurd hq.1 q12)
 refine zG ?_
 refine sC (pN _ (ix.x zx) (fun s hs=>(hS s hs).1) hSl) ?_
 rintro _ h13 n13 ⟨a13,l13,c13,e13,rfl,m13⟩ y13 x13
 rcases m13 with ⟨rfl,m13⟩|⟨rfl,m13,s13⟩|⟨rfl,m13,s13,i13⟩
 ·refine zG ?_
  refine zf ?_
  exact zcu (fun hq=>absurd hq.2 m13)
 ·refine zG ?_
  refine zf ?_
  exact zfb ⟨q12,m13⟩ zo
 refine zG ?_
 refine sC (dotU _ (io.x zx) i13 (fun s hs=>Nat.lt_of_lt_of_le (hp.ob s hs).1 zd) (Txt.nums hp.ob) (Txt.nums hS) (by rw [List.length_map];omega) zo) ?_
 rintro _ h14 n14 ⟨b14,a14,l14,c14,d14,e14,f14,g14,rfl,i14,j14⟩ y14 x14
 refine sC ((zbp _ i14 j14 (fA hp.ob hS zo) zo).cx) ?_
 rintro _ h15 n15 rfl y15 x15
 refine zG ?_
 refine zf ?_
 exact zfc ⟨q12,m13⟩ zo
theorem zgb (k:Nat)(io:Sl h n 1 (.slice ao lo co) (strs p.obj))(ir:RWS h n (.slice ar lr cr) p.rows)(iw:Sl h n 1 (.slice aw lw cw) (strs p.lower))(iu:Sl h n 1 (.slice au lu cu) (strs p.upper))(hp:LPB a p)(ha:a+a≤2000)(ix:Sl h n 1 (.slice ax lx cx) (strs S))(hS:∀s∈S,Txt b s)(hSl:S.length<1000000)(hL:p.obj.length*(a+b+1)+a+b+2≤1900)(ha2:a≤90):VF (cal (k+11)) 14 [.agg #[.slice ao lo co,.slice ar lr cr,.slice aw lw cw,.slice au lu cu],.slice ax lx cx] h n fun v=>v=feaV p S:=by
 have lo1:=zm io
 have lr1:=ir.len
 have lw1:=zm iw
 have lu1:=zm iu
 have lx1:=zm ix
 refine zA (fn:=Tryz.f14) rfl rfl rfl rfl ?_
 refine zG ?_
 refine sB [.slice ao lo co,.slice ar lr cr,.slice aw lw cw,.slice au lu cu] ?_
 intro h11 p11 x11
 refine zG ?_
 refine sC ((tw _ (io.x zx) (ir.x zx) (iw.x zx) (iu.x zx) hp ha).cx) ?_
 rintro _ h12 n12 ⟨b12,rfl,bq12⟩ y12 x12
 rcases bvs bq12 with ⟨rfl,q12⟩|⟨rfl,q12⟩
 ·refine zG ?_
  refine zf ?_
  exact zeb (fun hq=>absurd hq.1 q12)
 refine zG ?_
 refine sC (pN _ (ix.x zx) (fun s hs=>(hS s hs).1) hSl) ?_
 rintro _ h13 n13 ⟨a13,l13,c13,e13,rfl,m13⟩ y13 x13
 rcases m13 with ⟨rfl,m13⟩|⟨rfl,m13,s13⟩|⟨rfl,m13,s13,i13⟩
 ·refine zG ?_
  refine zf ?_
  exact zeb (fun hq=>absurd hq.2 m13)
 ·refine zG ?_
  refine zf ?_
  exact zgf ⟨q12,m13⟩ zo
 refine zG ?_
 refine sC ((zal _ (io.x zx) (ir.x zx) (iw.x zx) (iu.x zx) hp ha i13 (Txt.nums hS) (by rw [List.length_map,q12.ll,q12.lu];omega) (fun r hr=>Nat.le_of_eq (q12.rw r hr).2.2) (by rw [List.length_map];omega) hL ha2).cx) ?_
 rintro _ h14 n14 ⟨b14,rfl,bq14⟩ y14 x14
 rcases bvs bq14 with ⟨rfl,q14⟩|⟨rfl,q14⟩
 ·refine zG ?_
  refine zf ?_
  exact zge ⟨q12,m13⟩ zo q14
 refine zG ?_
 refine zf ?_
 exact zgd ⟨q12,m13⟩ zo q14
theorem bg (k:Nat)(io:Sl h n 1 (.slice ao lo co) (strs p.obj))(ir:RWS h n (.slice ar lr cr) p.rows)(iw:Sl h n 1 (.slice aw lw cw) (strs p.lower))(iu:Sl h n 1 (.slice au lu cu) (strs p.upper))(hp:LPB a p)(ha:a+a≤2000){C:List (List UInt8)}(iy:Sl h n 1 (.slice ay ly cy) (strs R))(iz:Sl h n 1 (.slice az lz cz) (strs C))(hR:∀s∈R,Txt b s)(hRl:R.length<1000000)(hC:∀s∈C,Txt b s)(hCl:C.length<1000000)(hL:p.rows.length*(a+b+1)+p.obj.length*(a+b+1)+a+b+2≤1900):VF (cal (k+11)) 16 [.agg #[.slice ao lo co,.slice ar lr cr,.slice aw lw cw,.slice au lu cu],.slice ay ly cy,.slice az lz cz] h n fun v=>v=bndV p R C:=by
 have lo1:=zm io
 have lr1:=ir.len
 have lw1:=zm iw
 have lu1:=zm iu
 have ly1:=zm iy
 have lz1:=zm iz
 refine zA (fn:=Tryz.f16) rfl rfl rfl rfl ?_
 refine zG ?_
 refine sB [.slice ao lo co,.slice ar lr cr,.slice aw lw cw,.slice au lu cu] ?_
 intro h11 p11 x11
 refine zG ?_
 refine sC ((tw _ (io.x zx) (ir.x zx) (iw.x zx) (iu.x zx) hp ha).cx) ?_
 rintro _ h12 n12 ⟨b12,rfl,bq12⟩ y12 x12
 rcases bvs bq12 with ⟨rfl,q12⟩|⟨rfl,q12⟩
 ·refine zG ?_
  refine zf ?_
  exact rg (fun hq=>absurd hq.1 q12)
 refine zG ?_
 refine sC (pN _ (iy.x zx) (fun s hs=>(hR s hs).1) hRl) ?_
 rintro _ h13 n13 ⟨a13,l13,c13,e13,rfl,m13⟩ y13 x13
 rcases m13 with ⟨rfl,m13⟩|⟨rfl,m13,s13⟩|⟨rfl,m13,s13,i13⟩
 ·refine zG ?_
  refine sC (pN _ (iz.x zx) (fun s hs=>(hC s hs).1) hCl) ?_
  rintro _ h14 n14 ⟨a14,l14,c14,e14,rfl,m14⟩ y14 x14
  rcases m14 with ⟨rfl,m14⟩|⟨rfl,m14,s14⟩|⟨rfl,m14,s14,i14⟩
  ·refine zG ?_
   refine zf ?_
   exact rg (fun hq=>absurd hq.2.1 m13)
  ·refine zG ?_
   refine zf ?_
   exact rg (fun hq=>absurd hq.2.1 m13)
  refine zG ?_
  refine zf ?_
  exact rg (fun hq=>absurd hq.2.1 m13)
 ·refine zG ?_
  refine sC (pN _ (iz.x zx) (fun s hs=>(hC s hs).1) hCl) ?_
  rintro _ h15 n15 ⟨a15,l15,c15,e15,rfl,m15⟩ y15 x15
  rcases m15 with ⟨rfl,m15⟩|⟨rfl,m15,s15⟩|⟨rfl,m15,s15,i15⟩
  ·refine zG ?_
   refine zf ?_
   exact rg (fun hq=>absurd hq.2.2 m15)
  ·refine zG ?_
   refine zf ?_
   exact bi ⟨q12,m13,m15⟩ zo
  refine zG ?_
  refine zf ?_
  exact bi ⟨q12,m13,m15⟩ zo
 refine zG ?_
 refine sC (pN _ (iz.x zx) (fun s hs=>(hC s hs).1) hCl) ?_
 rintro _ h16 n16 ⟨a16,l16,c16,e16,rfl,m16⟩ y16 x16
 rcases m16 with ⟨rfl,m16⟩|⟨rfl,m16,s16⟩|⟨rfl,m16,s16,i16⟩
 ·refine zG ?_
  refine zf ?_
  exact rg (fun hq=>absurd hq.2.2 m16)
 ·refine zG ?_
  refine zf ?_
  exact bi ⟨q12,m13,m16⟩ zo
 refine zG ?_
 refine sC (zff _ (io.x zx) (ir.x zx) (iw.x zx) (iu.x zx) hp ha (i13.x zx) i16 (Txt.nums hR) (Txt.nums hC) (by rw [List.length_map];omega) (by rw [List.length_map,q12.ll,q12.lu];omega) (by rw [List.length_map,List.length_map,show R.length=p.rows.length by omega,show C.length=p.obj.length by omega];exact hL)) ?_
 rintro _ h17 n17 ⟨b17,a17,l17,c17,d17,e17,f17,g17,ok17,rfl,bm17,q17⟩ y17 x17
 rcases bvs bm17 with ⟨rfl,m17⟩|⟨rfl,m17⟩
 ·refine zG ?_
  refine sA ?_
  intro h18 p18 x18
  refine sS [.bool b17,.slice a17 l17 c17,.bool d17,.slice e17 f17 g17] ?_
  intro h19 p19 o19
  refine zG ?_
  refine zf ?_
  exact zgv ⟨q12,m13,m16⟩ zo m17
 obtain ⟨i17,j17⟩:=q17 rfl
 have i17:UI h17 n17 b17 a17 l17 c17 (bndQ p R C).num:=i17
 have j17:UI h17 n17 d17 e17 f17 g17 (denZ (bndQ p R C)):=j17
 refine zG ?_
 refine sA ?_
 intro h20 p20 x20
 refine sS [.bool b17,.slice a17 l17 c17,.bool d17,.slice e17 f17 g17] ?_
 intro h21 p21 o21
 refine zG ?_
 refine sC ((zbp _ (i17.t zt) (j17.t zt) (bj q12 hp hR hC zo) zo).cx) ?_
 rintro _ h22 n22 rfl y22 x22
 refine zG ?_
 refine zf ?_
 exact zgu ⟨q12,m13,m16⟩ zo m17
end
section
set_option maxHeartbeats 2000000
variable {a b cap j l l1 l2:Nat}{p:LPD}{e ty ty':TypeId}{a1 a2:Option Addr}{R S:List (List UInt8)}{x y:Operand}
theorem dh (V:Nat):V<10^(decT V).length:=by
 have h:∀V,V<10^(decD V).length:=by
  intro V
  induction V using Nat.strongRecOn with
  |_ V ih=>
   by_cases h0:V=0
   ·subst h0;rw [yM];exact Nat.one_pos
   rw [wa h0,List.length_append]
   have:=ih (V/10) zo
   rw [show (decD (V/10)).length+[V%10].length=(decD (V/10)).length+1 from rfl,Nat.pow_succ]
   omega
 unfold decT
 split
 ·rename_i h0;rw [h0];decide
 rw [List.length_map,jU];exact h V
theorem Txt.of {s:List UInt8}{m:Nat}(h:s.length≤m)(hm:m<500)(ha:10^m≤2^a)(h1:1≤a):Txt a s:=by
 refine ⟨zo,?_⟩
 by_cases hn:xK s
 ·have he:=pQ hn
  generalize zP s=q at he
  have hl:=congrArg List.length he
  unfold ratT at hl
  simp only [List.length_append] at hl
  constructor
  ·exact Nat.lt_of_lt_of_le (Nat.lt_of_lt_of_le (dh _) (Nat.pow_le_pow_right zd (show _≤m by omega))) ha
  by_cases h2:q.den=1
  ·rw [h2];exact Nat.lt_of_lt_of_le (by decide:(1:Nat)<2^1) (Nat.pow_le_pow_right zd h1)
  rw [if_neg h2,List.length_cons] at hl
  exact Nat.lt_of_lt_of_le (Nat.lt_of_lt_of_le (dh _) (Nat.pow_le_pow_right zd (show _≤m by omega))) ha
 rw [wu hn];exact Sz.zero a h1
theorem txt8 {s:List UInt8}(h:(s.length:Int)≤8):Txt 27 s:=.of (m:=8) zo zd zd zd
theorem th {s:List UInt8}(h:(s.length:Int)≤12):Txt 40 s:=.of (m:=12) zo zd zd zd
def zda (r:RowD):Prop:=r.A.length≤7∧(∀s∈r.A,(s.length:Int)≤8)∧∀s∈[r.lo,r.hi],(s.length:Int)≤8
structure SmlP (p:LPD):Prop where
 n1:p.obj.length≤5
 n2:p.rows.length≤6
 n3:p.lower.length≤7
 n4:p.upper.length≤7
 ob:∀s∈p.obj,(s.length:Int)≤8
 lw:∀s∈p.lower,(s.length:Int)≤8
 up:∀s∈p.upper,(s.length:Int)≤8
 rw:∀r∈p.rows,zda r
theorem SmlP.lpb (h:SmlP p):LPB 27 p:=
 ⟨fun s hs=>txt8 (h.ob s hs),fun s hs=>txt8 (h.lw s hs),fun s hs=>txt8 (h.up s hs),fun r hr=>⟨txt8 ((h.rw r hr).2.2 _ (by simp)),txt8 ((h.rw r hr).2.2 _ (by simp)),by have:=(h.rw r hr).1;omega,fun s hs=>txt8 ((h.rw r hr).2.1 s hs)⟩,by have:=h.n1;omega,by have:=h.n2;omega,by have:=h.n3;omega,by have:=h.n4;omega⟩
def zcx (n:Nat)(r:RowD):RowD:=⟨fitL r.A n [48],r.lo,r.hi⟩
def wE (p:LPD):List RowD:=p.rows.map (zcx p.obj.length)
def ph (p:LPD):LPD:=⟨p.obj,wE p,fitL p.lower p.obj.length [],fitL p.upper p.obj.length []⟩
theorem iK {i:Nat}{r:RowD}(h:p.rows[i]?=some r):(wE p)[i]?=some (zcx p.obj.length r):=by unfold wE;rw [List.getElem?_map,h];rfl
theorem wI (p:LPD):(wE p).length=p.rows.length:=by unfold wE;rw [List.length_map]
theorem yV {l:List (List UInt8)}{n:Nat}{s:List UInt8}{m:Int}(h:∀x∈l,(x.length:Int)≤m)(hs:(s.length:Int)≤m):∀x∈fitL l n s,(x.length:Int)≤m:=fun x hx=>by
 rcases zao hx with h1|h1
 ·exact h x h1
 rw [h1];exact hs
theorem SmlP.tidy (h:SmlP p):SmlP (ph p):=
 ⟨h.n1,by show (wE p).length≤6;rw [wI];exact h.n2,by show (fitL _ _ _).length≤7;rw [xY];have:=h.n1;omega,by show (fitL _ _ _).length≤7;rw [xY];have:=h.n1;omega,h.ob,yV h.lw zd,yV h.up zd,fun r hr=>by
  obtain ⟨r2,hr2,rfl⟩:=List.mem_map.1 hr
  exact ⟨by show (fitL _ _ _).length≤7;rw [xY];have:=h.n1;omega,yV (h.rw r2 hr2).2.1 zd,(h.rw r2 hr2).2.2⟩⟩
noncomputable def valS (p:LPD)(S:List (List UInt8)):List UInt8:=open Classical in if VLP p∧allN S then (if S.length=p.obj.length then ratT (valQ p S) else []) else []
noncomputable def valE (p:LPD)(S:List (List UInt8)):Int:=open Classical in if VLP p∧allN S then (if S.length=p.obj.length then 0 else 4) else 1
theorem oi (p:LPD)(S:List (List UInt8)):valV p S=.tuple #[.string ⟨⟨valS p S⟩⟩,.int .i64 (valE p S)]:=by
 unfold valV valS valE
 split
 ·split<;>rfl
 rfl
noncomputable def feaB (p:LPD)(S:List (List UInt8)):Bool:=open Classical in if VLP p∧allN S then (if S.length=p.obj.length then decide (feaP p S) else false) else false
theorem oW (p:LPD)(S:List (List UInt8)):feaV p S=.tuple #[.bool (feaB p S),.int .i64 (valE p S)]:=by
 unfold feaV feaB valE
 split
 ·split<;>rfl
 rfl
noncomputable def bndS (p:LPD)(R C:List (List UInt8)):List UInt8:=open Classical in if VLP p∧allN R∧allN C then (if R.length=p.rows.length∧C.length=p.obj.length then (if bndP p R C then ratT (bndQ p R C) else []) else []) else []
noncomputable def bndB (p:LPD)(R C:List (List UInt8)):Bool:=open Classical in if VLP p∧allN R∧allN C then (if R.length=p.rows.length∧C.length=p.obj.length then (if bndP p R C then true else false) else false) else false
noncomputable def bndE (p:LPD)(R C:List (List UInt8)):Int:=open Classical in if VLP p∧allN R∧allN C then (if R.length=p.rows.length∧C.length=p.obj.length then 0 else 4) else 1
theorem ne (p:LPD)(R C:List (List UInt8)):bndV p R C=.tuple #[.string ⟨⟨bndS p R C⟩⟩,.bool (bndB p R C),.int .i64 (bndE p R C)]:=by
 unfold bndV bndS bndB bndE
 split
 ·split
  ·split<;>rfl
  rfl
 rfl
def slP (c:List Value)(S:List (List UInt8))(h:HF)(n:Nat):Prop:=∃a l k,c=[.slice a l k]∧Sl h n 1 (.slice a l k) (strs S)
def SLS (h:HF)(n:Nat)(v:Value)(LL:List (List (List UInt8))):Prop:=RS 1 slP h n v LL
theorem SLS.len {h:HF}{n:Nat}{a:Option Addr}{len:Nat}{LL:List (List (List UInt8))}(r:SLS h n (.slice a len cap) LL):len=LL.length:=RS.len' zd r
theorem SLS.at {h:HF}{n:Nat}{a:Option Addr}{len:Nat}{LL:List (List (List UInt8))}{d:List (List UInt8)}(r:SLS h n (.slice a len cap) LL)(hj:LL[j]?=some d):∃bb off a2 l2 k2,a=some ⟨bb,off,none⟩∧bb<3*n∧j<len∧At h bb (off+j*1) [.slice a2 l2 k2]∧Sl h n 1 (.slice a2 l2 k2) (strs d):=by
 obtain ⟨bb,off,c,p1,p2,p3,p4,_,a2,l2,k2,rfl,s⟩:=RS.at' zd r hj
 exact ⟨bb,off,a2,l2,k2,p1,p2,p3,p4,s⟩
theorem SLS.three {h:HF}{n:Nat}{a3:Option Addr}{k1 k2 l3 k3:Nat}{C:List (List UInt8)}(hp:h b=some (.row [.slice a1 l1 k1,.slice a2 l2 k2,.slice a3 l3 k3] e))(hb:b<3*n)(h1:Sl h n 1 (.slice a1 l1 k1) (strs S))(h2:Sl h n 1 (.slice a2 l2 k2) (strs R))(h3:Sl h n 1 (.slice a3 l3 k3) (strs C)):SLS h n (.slice (some ⟨b,0,none⟩) 3 3) [S,R,C]:=
 ⟨_,.at_ hb hp rfl (Nat.le_refl _) (Nat.le_refl _) rfl,.cons (c:=[_]) rfl ⟨_,_,_,rfl,h1⟩ (.cons (c:=[_]) rfl ⟨_,_,_,rfl,h2⟩ (.cons (c:=[_]) (cs:=[]) rfl ⟨_,_,_,rfl,h3⟩ .nil))⟩
theorem zfj {h:HF}{n:Nat}{s t:List UInt8}(hp:h b=some (.row [.string ⟨⟨s⟩⟩,.string ⟨⟨t⟩⟩] e))(hb:b<3*n):Sl h n 1 (.slice (some ⟨b,0,none⟩) 2 2) (strs [s,t]):=.at_ hb hp rfl (Nat.le_refl _) (Nat.le_refl _) rfl
theorem vo (k:Nat){h:HF}{n:Nat}(g:GG h n):VF (cal (k+1)) 8 [] h n fun v=>v=.bool true:=⟨_,_,_,_,ba k g.1 n,rfl,rfl,rfl,rfl⟩
theorem zdp (k:Nat){h:HF}{n:Nat}{a:Option Addr}{len:Nat}(hs:Sl h n 1 (.slice a len cap) (strs S))(hb:S.length<1000000):
  CX (cal (k+1)) 27 [.slice a len cap] h n fun v h' n'=>∃a l c,v=.slice a l c∧SSE n h' n' (.slice a l c) S:=
 (zby k hs hb).mono fun v h' n' g=>by
  obtain ⟨av,rfl,_⟩:=g.shape
  have:=SSE.of_gr0 g rfl (Nat.le_refl _) rfl
  rw [List.take_length] at this
  exact ⟨_,_,_,rfl,this⟩
section
variable {X:CtxF}{ops r:List Oper}{t:TF}{h:HF}{n:Nat}{w:List Nat}{Q:SV→Prop}{o:Oper}{d:Tmp}
end
section
variable {X:CtxF}{ops r:List Oper}{ms:List Nat}{i m:Nat}{t:TF}{h:HF}{n:Nat}{w:List Nat}{al ld:List (Nat×Nat)}{ef:List (Nat×HF×List Nat)}{Q:SV→Prop}{o:Oper}{d:Tmp}
theorem vn {b:Bool}(hw:zg ops t o=true)(hd:o.dst=some d)(hn:zl X.nt (some d)=true)(ho:o.op=.binOp .eql ty x y ty')(hx:evF t x=.bool b)(hy:evF t y=.bool b)(hv:∀b,binE X.E .eql ty (.bool b) (.bool b)=some (.bool true))
  (k:ED X ops r ms (i+1) ⟨⟨upd t d (.bool true),h,n,w⟩,al,ld,ef⟩ Q):ED X ops (o::r) (m::ms) i ⟨⟨t,h,n,w⟩,al,ld,ef⟩ Q:=by
 refine yL hw hd hn (by rw [ho];rfl) ?_ k
 rw [ho]
 show binE X.E .eql ty (evF t x) (evF t y)=_
 rw [hx,hy]
 exact hv b
theorem zbl (cs:List Value){c:Nat}(hw:zg ops t o=true)(hd:o.dst=some d)(hn:zl X.nt (some d)=true)(hc:cls o.op=2)(hm:mkE X.E o.op (evF t)=some ⟨cs,e,false,some (l,c)⟩)
  (k:∀h',h' (3*n+2)=some (.row cs e)→Ext n h h'→ED X ops r ms (i+1) ⟨⟨upd t d (.slice (some ⟨3*n+2,0,none⟩) l c),h',n+1,w⟩,(i,3*n+2)::al,ld,ef⟩ Q):ED X ops (o::r) (m::ms) i ⟨⟨t,h,n,w⟩,al,ld,ef⟩ Q:=
 zgh hw hd hn hc hm (k _ (ze _ _ _) (Ext.upd zo))
end
end
section
set_option maxHeartbeats 4000000
variable {h:HF}{co cr cu cw cx lo lr lu lw lx n:Nat}{ao ar au aw ax:Option Addr}{S:List (List UInt8)}{p:LPD}
theorem pH (k:Nat)(m:Int)(ix:Sl h n 1 (.slice ax lx cx) (strs S))(hb:S.length<100000000):VF (cal (k+1)) 24 [.int .i64 m,.slice ax lx cx] h n fun v=>∃b:Bool,v=.bool b∧(b=true↔∀s∈S,(s.length:Int)≤m):=by
 have lx1:=zm ix
 refine zA (fn:=Tryz.f24) rfl rfl rfl rfl ?_
 refine zG ?_
 refine sF (α:=Nat) (fun z=>[(0,.int .i64 m),(1,.slice ax lx cx),(5,.int .i64 (z:Int))]) (fun z h' n' w'=>w'=[]∧n≤n'∧ExtB n [] h h'∧z≤S.length∧∀s∈S.take z,(s.length:Int)≤m) (fun z=>S.length-z) 0 ⟨rfl,Nat.le_refl _,ExtB.refl _ _ _,(Nat.zero_le _),(fun s hs=>absurd hs (by simp))⟩ ?_
 rintro j t h11 n11 _ ⟨rfl,y11,Y11,hj,hall⟩
 have hj:j≤S.length:=hj
 have hall:∀s∈S.take j,(s.length:Int)≤m:=hall
 refine zG ?_
 by_cases q12:(j:Int)<(lx:Int)
 ·refine zG ?_
  obtain ⟨d13,g13⟩:∃d,(S)[j]?=some d:=⟨_,List.getElem?_eq_getElem zo⟩
  obtain ⟨k13,o13,e13,m13,r13,t13⟩:=y8 ix g13
  refine sI e13 r13 ?_
  refine sL t13 m13 0 ?_
  refine st_I (ik:=.i64) (a:=(d13.length:Int)) rfl rfl rfl rfl rfl ?_
  refine zG ?_
  by_cases q14:(d13.length:Int)>m
  ·refine zG ?_
   refine zf ?_
   exact ⟨_,rfl,⟨fun hq=>(by cases hq),fun hq=>by have:=hq _ (List.mem_of_getElem? g13);omega⟩⟩
  refine zG ?_
  exact sK (j+1) ⟨rfl,zo,Y11,(by show j+1≤S.length;omega),(tz hall g13 zo)⟩
 refine zG ?_
 refine zf ?_
 exact ⟨_,rfl,⟨fun _=>by have hq:=hall;rw [List.take_of_length_le zo] at hq;exact hq,fun _=>rfl⟩⟩
theorem jh (k:Nat){al:Option Addr}{ll cl:Nat}{LS:List (List (List UInt8))}(il:SLS h n (.slice al ll cl) LS)(hb:LS.length<100000000):VF (cal (k+2)) 7 [.slice al ll cl] h n fun v=>∃b:Bool,v=.bool b∧(b=true→∀S∈LS,S.length≤10∧∀s∈S,(s.length:Int)≤12):=by
 have ll1:=il.len
 refine zA (fn:=Tryz.f7) rfl rfl rfl rfl ?_
 refine zG ?_
 refine sF (α:=Nat) (fun z=>[(0,.slice al ll cl),(3,.int .i64 (z:Int))]) (fun z h' n' w'=>w'=[]∧n≤n'∧ExtB n [] h h'∧z≤LS.length∧∀S∈LS.take z,S.length≤10∧∀s∈S,(s.length:Int)≤12) (fun z=>LS.length-z) 0 ⟨rfl,Nat.le_refl _,ExtB.refl _ _ _,(Nat.zero_le _),(fun s hs=>absurd hs (by simp))⟩ ?_
 rintro j t h11 n11 _ ⟨rfl,y11,Y11,hj,hall⟩
 have hj:j≤LS.length:=hj
 have hall:∀S∈LS.take j,S.length≤10∧∀s∈S,(s.length:Int)≤12:=hall
 refine zG ?_
 by_cases q12:(j:Int)<(ll:Int)
 ·refine zG ?_
  obtain ⟨d13,g13⟩:∃d,(LS)[j]?=some d:=⟨_,List.getElem?_eq_getElem zo⟩
  obtain ⟨k13,o13,a13,l13,c13,e13,m13,r13,t13,i13⟩:=SLS.at il g13
  have la13:=zm i13
  refine sI e13 r13 ?_
  refine sL t13 m13 0 ?_
  refine zG ?_
  by_cases q14:(l13:Int)>10
  ·refine zG ?_
   refine zf ?_
   exact ⟨_,rfl,fun hq=>(by cases hq)⟩
  refine zG ?_
  refine sI e13 r13 ?_
  refine sL t13 m13 0 ?_
  refine sC ((pH _ (12) (i13.x zx) zo).cx) ?_
  rintro _ h15 n15 ⟨b15,rfl,bq15⟩ y15 x15
  rcases bvs bq15 with ⟨rfl,q15⟩|⟨rfl,q15⟩
  ·refine zG ?_
   refine zf ?_
   exact ⟨_,rfl,fun hq=>(by cases hq)⟩
  refine zG ?_
  exact sK (j+1) ⟨rfl,zo,zy,(by show j+1≤LS.length;omega),(tz hall g13 ⟨zo,q15⟩)⟩
 refine zG ?_
 refine zf ?_
 exact ⟨_,rfl,fun _=>by have hq:=hall;rw [List.take_of_length_le zo] at hq;exact hq⟩
theorem nI (k:Nat)(io:Sl h n 1 (.slice ao lo co) (strs p.obj))(ir:RWS h n (.slice ar lr cr) p.rows)(iw:Sl h n 1 (.slice aw lw cw) (strs p.lower))(iu:Sl h n 1 (.slice au lu cu) (strs p.upper)):VF (cal (k+2)) 6 [.agg #[.slice ao lo co,.slice ar lr cr,.slice aw lw cw,.slice au lu cu]] h n fun v=>∃b:Bool,v=.bool b∧(b=true→SmlP p):=by
 have lo1:=zm io
 have lr1:=ir.len
 have lw1:=zm iw
 have lu1:=zm iu
 refine zA (fn:=Tryz.f6) rfl rfl rfl rfl ?_
 refine zG ?_
 refine sB [.slice ao lo co,.slice ar lr cr,.slice aw lw cw,.slice au lu cu] ?_
 intro h11 p11 x11
 refine zG ?_
 by_cases q12:(lo:Int)>5
 ·refine zG ?_
  refine zf ?_
  exact ⟨_,rfl,fun hq=>(by cases hq)⟩
 refine zG ?_
 by_cases q13:(lr:Int)>6
 ·refine zG ?_
  refine zf ?_
  exact ⟨_,rfl,fun hq=>(by cases hq)⟩
 refine zG ?_
 by_cases q14:(lw:Int)>7
 ·refine zG ?_
  refine zf ?_
  exact ⟨_,rfl,fun hq=>(by cases hq)⟩
 refine zG ?_
 by_cases q15:(lu:Int)>7
 ·refine zG ?_
  refine zf ?_
  exact ⟨_,rfl,fun hq=>(by cases hq)⟩
 refine zG ?_
 refine sC ((pH _ (8) (io.x zx) zo).cx) ?_
 rintro _ h16 n16 ⟨b16,rfl,bq16⟩ y16 x16
 rcases bvs bq16 with ⟨rfl,q16⟩|⟨rfl,q16⟩
 ·refine zG ?_
  refine zf ?_
  exact ⟨_,rfl,fun hq=>(by cases hq)⟩
 refine zG ?_
 refine sC ((pH _ (8) (iw.x zx) zo).cx) ?_
 rintro _ h17 n17 ⟨b17,rfl,bq17⟩ y17 x17
 rcases bvs bq17 with ⟨rfl,q17⟩|⟨rfl,q17⟩
 ·refine zG ?_
  refine zf ?_
  exact ⟨_,rfl,fun hq=>(by cases hq)⟩
 refine zG ?_
 refine sC ((pH _ (8) (iu.x zx) zo).cx) ?_
 rintro _ h18 n18 ⟨b18,rfl,bq18⟩ y18 x18
 rcases bvs bq18 with ⟨rfl,q18⟩|⟨rfl,q18⟩
 ·refine zG ?_
  refine zf ?_
  exact ⟨_,rfl,fun hq=>(by cases hq)⟩
 refine zG ?_
 refine sF (α:=Nat) (fun z=>[(1,.pointer (some ⟨3*n+2,0,none⟩)),(3,.int .i64 (z:Int))]) (fun z h' n' w'=>w'=[]∧n18≤n'∧ExtB n18 [] h18 h'∧z≤p.rows.length∧∀r∈p.rows.take z,zda r) (fun z=>p.rows.length-z) 0 ⟨rfl,Nat.le_refl _,ExtB.refl _ _ _,(Nat.zero_le _),(fun s hs=>absurd hs (by simp))⟩ ?_
 rintro i t h19 n19 _ ⟨rfl,y19,Y19,hi,hrw⟩
 have hi:i≤p.rows.length:=hi
 have hrw:∀r∈p.rows.take i,zda r:=hrw
 refine zG ?_
 by_cases q20:(i:Int)<(lr:Int)
 ·refine zG ?_
  refine zn [0,1,0,7,15,31,63,127,255,511,1023,511,4095,8191,16383,32767,65535,131071,262143,524287,1048575,524287,4194303,8388607,16777215,524287,34078719,524287,235405311,503840767,1040711679,2147483647,4294967295,8589934591,17179869183] rfl ?_
  refine zH ?_
  obtain ⟨d21,g21⟩:∃d,(p.rows)[i]?=some d:=⟨_,List.getElem?_eq_getElem zo⟩
  obtain ⟨k21,o21,a21,l21,c21,e21,m21,r21,t21,i21⟩:=RWS.at ir g21
  have la21:=zm i21
  refine dI e21 r21 ?_
  refine zH ?_
  refine dL t21 m21 0 ?_
  refine zH ?_
  by_cases q22:(l21:Int)>7
  ·refine zH ?_
   refine zG ?_
   refine zf ?_
   exact ⟨_,rfl,fun hq=>(by cases hq)⟩
  refine zH ?_
  refine dI e21 r21 ?_
  refine zH ?_
  refine dL t21 m21 0 ?_
  refine dC ((pH _ (8) (i21.x zx) zo).cx) ?_
  rintro _ h23 n23 ⟨b23,rfl,bq23⟩ y23 x23
  rcases bvs bq23 with ⟨rfl,q23⟩|⟨rfl,q23⟩
  ·refine zH ?_
   refine zG ?_
   refine zf ?_
   exact ⟨_,rfl,fun hq=>(by cases hq)⟩
  refine zH ?_
  refine dI e21 r21 ?_
  refine zH ?_
  refine dL t21 m21 1 ?_
  refine zH ?_
  refine dI e21 r21 ?_
  refine zH ?_
  refine dL t21 m21 2 ?_
  refine zbl [.string ⟨⟨d21.lo⟩⟩,.string ⟨⟨d21.hi⟩⟩] (l:=2) (c:=2) rfl rfl rfl rfl rfl ?_
  intro h24 p24 x24
  refine dC ((pH _ (8) (zfj p24 zo) (by show 2<100000000;omega)).cx) ?_
  rintro _ h25 n25 ⟨b25,rfl,bq25⟩ y25 x25
  rcases bvs bq25 with ⟨rfl,q25⟩|⟨rfl,q25⟩
  ·refine zH ?_
   refine zG ?_
   refine zf ?_
   exact ⟨_,rfl,fun hq=>(by cases hq)⟩
  refine zH ?_
  refine zG ?_
  exact sK (i+1) ⟨rfl,zo,zy,(by show i+1≤p.rows.length;omega),(tz hrw g21 ⟨zo,q23,q25⟩)⟩
 refine zG ?_
 refine zf ?_
 exact ⟨_,rfl,fun _=>⟨zo,zo,zo,zo,q16,q17,q18,by have hq:=hrw;rw [List.take_of_length_le zo] at hq;exact hq⟩⟩
end
section
set_option maxHeartbeats 4000000
variable {h:HF}{co cr cu cw lo lr lu lw n:Nat}{ao ar au aw:Option Addr}{p:LPD}
theorem zcw (k:Nat)(io:Sl h n 1 (.slice ao lo co) (strs p.obj))(ir:RWS h n (.slice ar lr cr) p.rows)(iw:Sl h n 1 (.slice aw lw cw) (strs p.lower))(iu:Sl h n 1 (.slice au lu cu) (strs p.upper))(hp:SmlP p):CX (cal (k+3)) 9 [.agg #[.slice ao lo co,.slice ar lr cr,.slice aw lw cw,.slice au lu cu]] h n fun v h' n'=>∃aO lO kO aR lR kR aL lL kL aU lU kU,v=.agg #[.slice aO lO kO,.slice aR lR kR,.slice aL lL kL,.slice aU lU kU]∧SSE n h' n' (.slice aO lO kO) p.obj∧GRW n h' n' (.slice aR lR kR) (wE p)∧SSE n h' n' (.slice aL lL kL) (fitL p.lower p.obj.length [])∧SSE n h' n' (.slice aU lU kU) (fitL p.upper p.obj.length []):=by
 have lo1:=zm io
 have lr1:=ir.len
 have lw1:=zm iw
 have lu1:=zm iu
 obtain ⟨hn1,hn2,hn3,hn4,hq1,hq2,hq3,hrw⟩:=hp
 refine zr (fn:=Tryz.f9) rfl rfl rfl rfl ?_
 refine zG ?_
 refine sB [.slice ao lo co,.slice ar lr cr,.slice aw lw cw,.slice au lu cu] ?_
 intro h11 p11 x11
 refine sA ?_
 intro h12 p12 x12
 refine zG ?_
 refine zn [0,1,3,0,8,0,63,0,128,0,1023,2047,0,8191] rfl ?_
 refine zH ?_
 refine dC (zdp _ (io.x zx) zo) ?_
 rintro _ h13 n13 ⟨a13,l13,c13,rfl,i13⟩ y13 x13
 refine zH ?_
 refine dC (pU _ (iw.x zx) zo (m:=lo) zo []) ?_
 rintro _ h14 n14 ⟨a14,c14,rfl,i14⟩ y14 x14
 have i14:SSE n13 h14 n14 (.slice a14 lo c14) (fitL p.lower p.obj.length []):=by have e:fitL p.lower lo []=fitL p.lower p.obj.length []:=(by rw [lo1]);rw [←e];exact i14
 refine zH ?_
 refine dC (pU _ (iu.x zx) zo (m:=lo) zo []) ?_
 rintro _ h15 n15 ⟨a15,c15,rfl,i15⟩ y15 x15
 have i15:SSE n14 h15 n15 (.slice a15 lo c15) (fitL p.upper p.obj.length []):=by have e:fitL p.upper lo []=fitL p.upper p.obj.length []:=(by rw [lo1]);rw [←e];exact i15
 refine dT #[.slice a13 l13 c13,.slice none 0 0,.slice a14 lo c14,.slice a15 lo c15] ?_
 refine dB [.slice none 0 0,.slice none 0 0,.slice none 0 0,.slice none 0 0] ?_
 intro h16 p16 x16
 refine dS [.slice a13 l13 c13,.slice none 0 0,.slice a14 lo c14,.slice a15 lo c15] ?_
 intro h17 p17 o17
 refine zG ?_
 refine sF (α:=Nat×Option Addr×Nat×Nat) (fun z=>[(1,.pointer (some ⟨3*n+2,0,none⟩)),(2,.pointer (some ⟨3*(n+1)+2,0,none⟩)),(3,.int .i64 (lo:Int)),(4,.pointer (some ⟨3*n15+2,0,none⟩)),(5,.int .i64 (z.1:Int))]) (fun z h' n' w'=>w'=[]∧n15+1≤n'∧ExtB (n15+1) [3*n15+2] h17 h'∧h' (3*n15+2)=some (.row [.slice a13 l13 c13,.slice z.2.1 z.2.2.1 z.2.2.2,.slice a14 lo c14,.slice a15 lo c15] 25)∧GRW (n15+1) h' n' (.slice z.2.1 z.2.2.1 z.2.2.2) ((wE p).take z.1)∧z.1≤p.rows.length) (fun z=>p.rows.length-z.1) (0,none,0,0) ⟨rfl,Nat.le_refl _,ExtB.refl _ _ _,p17,GRW.nil _ _ _,(Nat.zero_le _)⟩ ?_
 rintro ⟨i,aT,lT,kT⟩ t h18 n18 _ ⟨rfl,y18,Y18,p18_0,i18_0_0,hi⟩
 have p18_0:h18 (3*n15+2)=some (.row [.slice a13 l13 c13,.slice aT lT kT,.slice a14 lo c14,.slice a15 lo c15] 25):=p18_0
 have i18_0_0:GRW (n15+1) h18 n18 (.slice aT lT kT) ((wE p).take i):=i18_0_0
 have hi:i≤p.rows.length:=hi
 refine zG ?_
 by_cases q19:(i:Int)<(lr:Int)
 ·refine zG ?_
  refine zn [0,1,0,4,0,28,60,124,0,508,0,1024,0,7168,15360,31744,0,65536,0,458752,983040,2031616,4194300,8388604,16777215,33554431,67108863] rfl ?_
  refine zH ?_
  obtain ⟨d20,g20⟩:∃d,(p.rows)[i]?=some d:=⟨_,List.getElem?_eq_getElem zo⟩
  obtain ⟨k20,o20,a20,l20,c20,e20,m20,r20,t20,i20⟩:=RWS.at ir g20
  have la20:=zm i20
  refine dI e20 r20 ?_
  refine zH ?_
  refine dL t20 m20 0 ?_
  refine zH ?_
  refine dC (pU _ (i20.x zx) (by have:=(hrw _ (List.mem_of_getElem? g20)).1;omega) (m:=lo) zo [48]) ?_
  rintro _ h21 n21 ⟨a21,c21,rfl,i21⟩ y21 x21
  have i21:SSE n18 h21 n21 (.slice a21 lo c21) (fitL d20.A p.obj.length [48]):=by have e:fitL d20.A lo [48]=fitL d20.A p.obj.length [48]:=(by rw [lo1]);rw [←e];exact i21
  refine zH ?_
  refine dI e20 r20 ?_
  refine zH ?_
  refine dL t20 m20 1 ?_
  refine zH ?_
  refine dI e20 r20 ?_
  refine zH ?_
  refine dL t20 m20 2 ?_
  refine dT #[.slice a21 lo c21,.string ⟨⟨d20.lo⟩⟩,.string ⟨⟨d20.hi⟩⟩] ?_
  refine zbl [.slice a21 lo c21,.string ⟨⟨d20.lo⟩⟩,.string ⟨⟨d20.hi⟩⟩] (l:=1) (c:=1) rfl rfl rfl rfl rfl ?_
  intro h22 p22 x22
  have s23:iZ (n15+1) [.slice a21 lo c21,.string ⟨⟨d20.lo⟩⟩,.string ⟨⟨d20.hi⟩⟩] (zcx p.obj.length d20) h22 (n21+1):=⟨_,_,_,rfl,((i21.x zx)).lo (show n15+1≤n18 by omega)⟩
  obtain ⟨C23,gr23,rc23⟩:=((i18_0_0.x (h':=h22) (n':=n21+1) zx)).ex
  have ph23:h22 (3*n21+2)=_:=p22
  refine zgj (lo:=(n15+1)) (mm:=1) rfl rfl rfl rfl rfl rfl rfl rfl ⟨Nat.le_of_ble_eq_true rfl,Nat.le_of_ble_eq_true rfl⟩ rfl rfl rfl gr23 (wp ph23 rfl rfl) (Nat.le_refl _) (by rw [List.length_take,wI];omega) rfl rfl ⟨by show n≤_;omega,zo⟩ ?_
  intro v23 h23 W23 gg23 x23 k23 f23
  have G23:=GRW.app gr23 rc23 s23 k23 gg23
  obtain ⟨a23,es23,_⟩:=gg23.shape
  subst es23
  replace x23:Exa (n15+1) _ _:=⟨x23⟩
  have p24:h23 (3*n+2)=_:=(k23.blk gr23 (zX _) zo).trans zp
  have p25:h23 (3*(n+1)+2)=_:=(k23.blk gr23 (zX _) zo).trans zp
  have p26:h23 (3*n15+2)=_:=(k23.blk gr23 (zX _) zo).trans zp
  have p27:h23 (3*n21+2)=_:=(k23.blk gr23 (zX _) zo).trans zp
  refine zH ?_
  refine dS (b:=3*n15+2) (off:=1) [.slice a13 l13 c13,.slice a23 (((wE p).take i).length+1) (((wE p).take i).length+1),.slice a14 lo c14,.slice a15 lo c15] ?_
  intro h28 p28 o28
  have i29:=G23.sto o28 zo
  refine zG ?_
  exact sK (i+1,a23,(((wE p).take i).length+1),(((wE p).take i).length+1)) ⟨rfl,zo,zy,p28,((xi (iK g20)).symm▸i29),(by show i+1≤p.rows.length;omega)⟩
 refine zG ?_
 have hie:i=p.rows.length:=zo
 have hrows:GRW (n15+1) h18 n18 (.slice aT lT kT) (wE p):=by have hq:=i18_0_0;rw [List.take_of_length_le (by rw [wI];omega)] at hq;exact hq
 refine zG ?_
 refine sS [.slice a13 l13 c13,.slice aT lT kT,.slice a14 lo c14,.slice a15 lo c15] ?_
 intro h30 p30 o30
 have i31:=(i13.x zx).sto o30 zo
 have i32:=(i14.x zx).sto o30 zo
 have i33:=(i15.x zx).sto o30 zo
 have i34:=i18_0_0.sto o30 zo
 have i35:=hrows.sto o30 zo
 refine zG ?_
 refine zq ?_
 exact ⟨_,_,_,_,_,_,_,_,_,_,_,_,rfl,(i31).lo zo,(i35).lo zo,(i32).lo zo,(i33).lo zo⟩
end
section
set_option maxHeartbeats 4000000
variable {f:FuncId}{args:List Value}{h:HF}{co cr cu cw cx cy cz lo lr lu lw lx ly lz n:Nat}{ao ar au aw ax ay az:Option Addr}{p:LPD}{R S:List (List UInt8)}
theorem VF.eq {C:CalF}{a b:Value}(c:VF C f args h n fun v=>v=a)(e:a=b):VF C f args h n fun v=>v=b:=e▸c
set_option maxRecDepth 100000
theorem aG (k:Nat)(g:GG h n)(io:Sl h n 1 (.slice ao lo co) (strs p.obj))(ir:RWS h n (.slice ar lr cr) p.rows)(iw:Sl h n 1 (.slice aw lw cw) (strs p.lower))(iu:Sl h n 1 (.slice au lu cu) (strs p.upper)){C:List (List UInt8)}(ix:Sl h n 1 (.slice ax lx cx) (strs S))(iy:Sl h n 1 (.slice ay ly cy) (strs R))(iz:Sl h n 1 (.slice az lz cz) (strs C)):VF (cal (k+15)) 3 [.agg #[.slice ao lo co,.slice ar lr cr,.slice aw lw cw,.slice au lu cu],.slice ax lx cx,.slice ay ly cy,.slice az lz cz,.bool true] h n fun v=>v=.bool true:=by
 have lo1:=zm io
 have lr1:=ir.len
 have lw1:=zm iw
 have lu1:=zm iu
 have lx1:=zm ix
 have ly1:=zm iy
 have lz1:=zm iz
 refine zA (fn:=Tryz.f3) rfl rfl rfl rfl ?_
 refine zG ?_
 refine sB [.slice ao lo co,.slice ar lr cr,.slice aw lw cw,.slice au lu cu] ?_
 intro h11 p11 x11
 refine zG ?_
 refine sC ((nI _ (io.x zx) (ir.x zx) (iw.x zx) (iu.x zx)).cx) ?_
 rintro _ h12 n12 ⟨b12,rfl,m12⟩ y12 x12
 cases b12
 ·refine zG ?_
  refine sC ((vo _ (g.x zx)).cx) ?_
  rintro _ h13 n13 rfl y13 x13
  refine zG ?_
  refine zf ?_
  exact rfl
 have m12:=m12 rfl
 have hn1:=m12.n1
 have hn2:=m12.n2
 have hn3:=m12.n3
 have hn4:=m12.n4
 refine zG ?_
 refine uu [.slice ax lx cx,.slice ay ly cy,.slice az lz cz] (l:=3) (c:=3) rfl rfl rfl rfl rfl ?_
 intro h14 p14 x14
 refine sC ((jh _ (SLS.three p14 zo (ix.x zx) (iy.x zx) (iz.x zx)) (by show 3<100000000;omega)).cx) ?_
 rintro _ h15 n15 ⟨b15,rfl,m15⟩ y15 x15
 cases b15
 ·refine zG ?_
  refine sC ((vo _ (g.x zx)).cx) ?_
  rintro _ h16 n16 rfl y16 x16
  refine zG ?_
  refine zf ?_
  exact rfl
 have m15:=m15 rfl
 obtain ⟨hS1,hS2⟩:=m15 S (by simp)
 obtain ⟨hR1,hR2⟩:=m15 R (by simp)
 obtain ⟨hC1,hC2⟩:=m15 C (by simp)
 refine zG ?_
 refine sC (((zbo _ (g.x zx) (io.x zx) (ir.x zx) (iw.x zx) (iu.x zx) (p:=p) (a:=27) m12.lpb zo (ix.x zx) (S:=S) (b:=40) (fun s hs=>th (hS2 s hs)) zo (show p.obj.length*(27+40+1)+27+40+2≤1900 by omega)).eq (oi _ _)).cx) ?_
 rintro _ h17 n17 rfl y17 x17
 refine zG ?_
 refine sC (((zbn _ (io.x zx) (ir.x zx) (iw.x zx) (iu.x zx) (p:=p) (a:=27) m12.lpb zo (ix.x zx) (S:=S) (b:=40) (fun s hs=>th (hS2 s hs)) zo (show p.obj.length*(27+40+1)+27+40+2≤1900 by omega)).eq (oi _ _)).cx) ?_
 rintro _ h18 n18 rfl y18 x18
 refine zG ?_
 refine sC (((zgc _ (g.x zx) (io.x zx) (ir.x zx) (iw.x zx) (iu.x zx) (p:=p) (a:=27) m12.lpb zo (ix.x zx) (S:=S) (b:=40) (fun s hs=>th (hS2 s hs)) zo (show p.obj.length*(27+40+1)+27+40+2≤1900 by omega) zo).eq (oW _ _)).cx) ?_
 rintro _ h19 n19 rfl y19 x19
 refine zG ?_
 refine sC (((zgb _ (io.x zx) (ir.x zx) (iw.x zx) (iu.x zx) (p:=p) (a:=27) m12.lpb zo (ix.x zx) (S:=S) (b:=40) (fun s hs=>th (hS2 s hs)) zo (show p.obj.length*(27+40+1)+27+40+2≤1900 by omega) zo).eq (oW _ _)).cx) ?_
 rintro _ h20 n20 rfl y20 x20
 refine zG ?_
 refine sC (((zcp _ (g.x zx) (io.x zx) (ir.x zx) (iw.x zx) (iu.x zx) (p:=p) (a:=27) m12.lpb zo (iy.x zx) (iz.x zx) (R:=R) (C:=C) (b:=40) (fun s hs=>th (hR2 s hs)) zo (fun s hs=>th (hC2 s hs)) zo (show p.rows.length*(27+40+1)+p.obj.length*(27+40+1)+27+40+2≤1900 by omega)).eq (ne _ _ _)).cx) ?_
 rintro _ h21 n21 rfl y21 x21
 refine zG ?_
 refine sC (((bg _ (io.x zx) (ir.x zx) (iw.x zx) (iu.x zx) (p:=p) (a:=27) m12.lpb zo (iy.x zx) (iz.x zx) (R:=R) (C:=C) (b:=40) (fun s hs=>th (hR2 s hs)) zo (fun s hs=>th (hC2 s hs)) zo (show p.rows.length*(27+40+1)+p.obj.length*(27+40+1)+27+40+2≤1900 by omega)).eq (ne _ _ _)).cx) ?_
 rintro _ h22 n22 rfl y22 x22
 refine zG ?_
 refine zn [0,1,0,7,15,31,63,63,255,511,1023,2047,2047,8191,16383,32767,65535,65535,262143,524287,1048575,2097151,2097151,8388607,16777215,33554431,67108863,67108863,268435455,536870911,1073741823,2147483647,2147483647,8589934591,17179869183,34359738367,68719476735,68719476735,274877906943,549755813887,1099511627775,2199023255551,4398046511103,8796093022207] rfl ?_
 refine zH ?_
 refine dC ((fv _ (g.x zx) (io.x zx) (ir.x zx) (iw.x zx) (iu.x zx) (p:=p) (a:=27) m12.lpb zo).cx) ?_
 rintro _ h23 n23 ⟨b23,rfl,bq23⟩ y23 x23
 rcases bvs bq23 with ⟨rfl,q23⟩|⟨rfl,q23⟩
 ·refine zH ?_
  refine dC ((tw _ (io.x zx) (ir.x zx) (iw.x zx) (iu.x zx) (p:=p) (a:=27) m12.lpb zo).cx) ?_
  rintro _ h24 n24 ⟨b24,rfl,bq24⟩ y24 x24
  rcases bvs bq24 with ⟨rfl,q24⟩|⟨rfl,q24⟩
  ·refine zH ?_
   refine xz true rfl rfl rfl rfl rfl rfl (by simp) ?_
   refine zH ?_
   refine vn rfl rfl rfl rfl rfl rfl (fun b=>by cases b<;>rfl) ?_
   refine zH ?_
   refine xz true rfl rfl rfl rfl rfl rfl (by simp) ?_
   refine zH ?_
   refine vn rfl rfl rfl rfl rfl rfl (fun b=>by cases b<;>rfl) ?_
   refine zH ?_
   refine dC ((vo _ (g.x zx)).cx) ?_
   rintro _ h25 n25 rfl y25 x25
   refine zH ?_
   refine zG ?_
   refine zf ?_
   exact rfl
  exact absurd q24 q23
 refine zH ?_
 refine dC ((tw _ (io.x zx) (ir.x zx) (iw.x zx) (iu.x zx) (p:=p) (a:=27) m12.lpb zo).cx) ?_
 rintro _ h26 n26 ⟨b26,rfl,bq26⟩ y26 x26
 rcases bvs bq26 with ⟨rfl,q26⟩|⟨rfl,q26⟩
 ·exact absurd q23 q26
 refine zH ?_
 refine xz true rfl rfl rfl rfl rfl rfl (by simp) ?_
 refine zH ?_
 refine vn rfl rfl rfl rfl rfl rfl (fun b=>by cases b<;>rfl) ?_
 refine zH ?_
 refine xz true rfl rfl rfl rfl rfl rfl (by simp) ?_
 refine zH ?_
 refine vn rfl rfl rfl rfl rfl rfl (fun b=>by cases b<;>rfl) ?_
 refine zH ?_
 refine dC ((vo _ (g.x zx)).cx) ?_
 rintro _ h27 n27 rfl y27 x27
 refine zH ?_
 refine zG ?_
 refine zf ?_
 exact rfl
theorem et (k:Nat)(g:GG h n)(io:Sl h n 1 (.slice ao lo co) (strs p.obj))(ir:RWS h n (.slice ar lr cr) p.rows)(iw:Sl h n 1 (.slice aw lw cw) (strs p.lower))(iu:Sl h n 1 (.slice au lu cu) (strs p.upper)){C:List (List UInt8)}(ix:Sl h n 1 (.slice ax lx cx) (strs S))(iy:Sl h n 1 (.slice ay ly cy) (strs R))(iz:Sl h n 1 (.slice az lz cz) (strs C)):VF (cal (k+15)) 3 [.agg #[.slice ao lo co,.slice ar lr cr,.slice aw lw cw,.slice au lu cu],.slice ax lx cx,.slice ay ly cy,.slice az lz cz,.bool false] h n fun v=>v=.bool true:=by
 have lo1:=zm io
 have lr1:=ir.len
 have lw1:=zm iw
 have lu1:=zm iu
 have lx1:=zm ix
 have ly1:=zm iy
 have lz1:=zm iz
 refine zA (fn:=Tryz.f3) rfl rfl rfl rfl ?_
 refine zG ?_
 refine sB [.slice ao lo co,.slice ar lr cr,.slice aw lw cw,.slice au lu cu] ?_
 intro h11 p11 x11
 refine zG ?_
 refine sC ((nI _ (io.x zx) (ir.x zx) (iw.x zx) (iu.x zx)).cx) ?_
 rintro _ h12 n12 ⟨b12,rfl,m12⟩ y12 x12
 cases b12
 ·refine zG ?_
  refine sC ((vo _ (g.x zx)).cx) ?_
  rintro _ h13 n13 rfl y13 x13
  refine zG ?_
  refine zf ?_
  exact rfl
 have m12:=m12 rfl
 have hn1:=m12.n1
 have hn2:=m12.n2
 have hn3:=m12.n3
 have hn4:=m12.n4
 refine zG ?_
 refine uu [.slice ax lx cx,.slice ay ly cy,.slice az lz cz] (l:=3) (c:=3) rfl rfl rfl rfl rfl ?_
 intro h14 p14 x14
 refine sC ((jh _ (SLS.three p14 zo (ix.x zx) (iy.x zx) (iz.x zx)) (by show 3<100000000;omega)).cx) ?_
 rintro _ h15 n15 ⟨b15,rfl,m15⟩ y15 x15
 cases b15
 ·refine zG ?_
  refine sC ((vo _ (g.x zx)).cx) ?_
  rintro _ h16 n16 rfl y16 x16
  refine zG ?_
  refine zf ?_
  exact rfl
 have m15:=m15 rfl
 obtain ⟨hS1,hS2⟩:=m15 S (by simp)
 obtain ⟨hR1,hR2⟩:=m15 R (by simp)
 obtain ⟨hC1,hC2⟩:=m15 C (by simp)
 refine zG ?_
 refine sC (zcw _ (io.x zx) (ir.x zx) (iw.x zx) (iu.x zx) m12) ?_
 rintro _ h17 n17 ⟨aO17,lO17,kO17,aR17,lR17,kR17,aL17,lL17,kL17,aU17,lU17,kU17,rfl,iO17,iR17,iL17,iU17⟩ y17 x17
 have qO17:=zm iO17.1
 have qR17:=iR17.rws.len
 rw [wI] at qR17
 refine sS [.slice aO17 lO17 kO17,.slice aR17 lR17 kR17,.slice aL17 lL17 kL17,.slice aU17 lU17 kU17] ?_
 intro h18 p18 o18
 have i19:=iO17.sto o18 zo
 have i20:=iR17.sto o18 zo
 have i21:=iL17.sto o18 zo
 have i22:=iU17.sto o18 zo
 refine zG ?_
 refine zn [0,0,2,6,15,0,0,64,192,511,0,0,2048,6144,16383,32767,65535,131071] rfl ?_
 refine zH ?_
 refine dC (pU _ (ix.x zx) zo (m:=lO17) zo [48]) ?_
 rintro _ h23 n23 ⟨a23,c23,rfl,i23⟩ y23 x23
 have i23:SSE n17 h23 n23 (.slice a23 lO17 c23) (fitL S p.obj.length [48]):=by have e:fitL S lO17 [48]=fitL S p.obj.length [48]:=(by rw [qO17]);rw [←e];exact i23
 refine zH ?_
 refine dC (pU _ (iy.x zx) zo (m:=lR17) zo [48]) ?_
 rintro _ h24 n24 ⟨a24,c24,rfl,i24⟩ y24 x24
 have i24:SSE n23 h24 n24 (.slice a24 lR17 c24) (fitL R p.rows.length [48]):=by have e:fitL R lR17 [48]=fitL R p.rows.length [48]:=(by rw [qR17]);rw [←e];exact i24
 refine zH ?_
 refine dC (pU _ (iz.x zx) zo (m:=lO17) zo [48]) ?_
 rintro _ h25 n25 ⟨a25,c25,rfl,i25⟩ y25 x25
 have i25:SSE n24 h25 n25 (.slice a25 lO17 c25) (fitL C p.obj.length [48]):=by have e:fitL C lO17 [48]=fitL C p.obj.length [48]:=(by rw [qO17]);rw [←e];exact i25
 refine zH ?_
 refine zG ?_
 refine sC (((zbo _ (g.x zx) (i19.x zx).ss (i20.x zx).rws (i21.x zx).ss (i22.x zx).ss (p:=(ph p)) (a:=27) m12.tidy.lpb zo (i23.x zx).ss (S:=(fitL S p.obj.length [48])) (b:=40) (fun s hs=>th (yV hS2 zd s hs)) (by rw [xY];omega) (show p.obj.length*(27+40+1)+27+40+2≤1900 by omega)).eq (oi _ _)).cx) ?_
 rintro _ h26 n26 rfl y26 x26
 refine zG ?_
 refine sC (((zbn _ (i19.x zx).ss (i20.x zx).rws (i21.x zx).ss (i22.x zx).ss (p:=(ph p)) (a:=27) m12.tidy.lpb zo (i23.x zx).ss (S:=(fitL S p.obj.length [48])) (b:=40) (fun s hs=>th (yV hS2 zd s hs)) (by rw [xY];omega) (show p.obj.length*(27+40+1)+27+40+2≤1900 by omega)).eq (oi _ _)).cx) ?_
 rintro _ h27 n27 rfl y27 x27
 refine zG ?_
 refine sC (((zgc _ (g.x zx) (i19.x zx).ss (i20.x zx).rws (i21.x zx).ss (i22.x zx).ss (p:=(ph p)) (a:=27) m12.tidy.lpb zo (i23.x zx).ss (S:=(fitL S p.obj.length [48])) (b:=40) (fun s hs=>th (yV hS2 zd s hs)) (by rw [xY];omega) (show p.obj.length*(27+40+1)+27+40+2≤1900 by omega) zo).eq (oW _ _)).cx) ?_
 rintro _ h28 n28 rfl y28 x28
 refine zG ?_
 refine sC (((zgb _ (i19.x zx).ss (i20.x zx).rws (i21.x zx).ss (i22.x zx).ss (p:=(ph p)) (a:=27) m12.tidy.lpb zo (i23.x zx).ss (S:=(fitL S p.obj.length [48])) (b:=40) (fun s hs=>th (yV hS2 zd s hs)) (by rw [xY];omega) (show p.obj.length*(27+40+1)+27+40+2≤1900 by omega) zo).eq (oW _ _)).cx) ?_
 rintro _ h29 n29 rfl y29 x29
 refine zG ?_
 refine sC (((zcp _ (g.x zx) (i19.x zx).ss (i20.x zx).rws (i21.x zx).ss (i22.x zx).ss (p:=(ph p)) (a:=27) m12.tidy.lpb zo (i24.x zx).ss (i25.x zx).ss (R:=(fitL R p.rows.length [48])) (C:=(fitL C p.obj.length [48])) (b:=40) (fun s hs=>th (yV hR2 zd s hs)) (by rw [xY];omega) (fun s hs=>th (yV hC2 zd s hs)) (by rw [xY];omega) (show (wE p).length*(27+40+1)+p.obj.length*(27+40+1)+27+40+2≤1900 by rw [wI];omega)).eq (ne _ _ _)).cx) ?_
 rintro _ h30 n30 rfl y30 x30
 refine zG ?_
 refine sC (((bg _ (i19.x zx).ss (i20.x zx).rws (i21.x zx).ss (i22.x zx).ss (p:=(ph p)) (a:=27) m12.tidy.lpb zo (i24.x zx).ss (i25.x zx).ss (R:=(fitL R p.rows.length [48])) (C:=(fitL C p.obj.length [48])) (b:=40) (fun s hs=>th (yV hR2 zd s hs)) (by rw [xY];omega) (fun s hs=>th (yV hC2 zd s hs)) (by rw [xY];omega) (show (wE p).length*(27+40+1)+p.obj.length*(27+40+1)+27+40+2≤1900 by rw [wI];omega)).eq (ne _ _ _)).cx) ?_
 rintro _ h31 n31 rfl y31 x31
 refine zG ?_
 refine zn [0,1,0,7,15,31,63,63,255,511,1023,2047,2047,8191,16383,32767,65535,65535,262143,524287,1048575,2097151,2097151,8388607,16777215,33554431,67108863,67108863,268435455,536870911,1073741823,2147483647,2147483647,8589934591,17179869183,34359738367,68719476735,68719476735,274877906943,549755813887,1099511627775,2199023255551,4398046511103,8796093022207] rfl ?_
 refine zH ?_
 refine dC ((fv _ (g.x zx) (i19.x zx).ss (i20.x zx).rws (i21.x zx).ss (i22.x zx).ss (p:=(ph p)) (a:=27) m12.tidy.lpb zo).cx) ?_
 rintro _ h32 n32 ⟨b32,rfl,bq32⟩ y32 x32
 rcases bvs bq32 with ⟨rfl,q32⟩|⟨rfl,q32⟩
 ·refine zH ?_
  refine dC ((tw _ (i19.x zx).ss (i20.x zx).rws (i21.x zx).ss (i22.x zx).ss (p:=(ph p)) (a:=27) m12.tidy.lpb zo).cx) ?_
  rintro _ h33 n33 ⟨b33,rfl,bq33⟩ y33 x33
  rcases bvs bq33 with ⟨rfl,q33⟩|⟨rfl,q33⟩
  ·refine zH ?_
   refine xz true rfl rfl rfl rfl rfl rfl (by simp) ?_
   refine zH ?_
   refine vn rfl rfl rfl rfl rfl rfl (fun b=>by cases b<;>rfl) ?_
   refine zH ?_
   refine xz true rfl rfl rfl rfl rfl rfl (by simp) ?_
   refine zH ?_
   refine vn rfl rfl rfl rfl rfl rfl (fun b=>by cases b<;>rfl) ?_
   refine zH ?_
   refine dC ((vo _ (g.x zx)).cx) ?_
   rintro _ h34 n34 rfl y34 x34
   refine zH ?_
   refine zG ?_
   refine zf ?_
   exact rfl
  exact absurd q33 q32
 refine zH ?_
 refine dC ((tw _ (i19.x zx).ss (i20.x zx).rws (i21.x zx).ss (i22.x zx).ss (p:=(ph p)) (a:=27) m12.tidy.lpb zo).cx) ?_
 rintro _ h35 n35 ⟨b35,rfl,bq35⟩ y35 x35
 rcases bvs bq35 with ⟨rfl,q35⟩|⟨rfl,q35⟩
 ·exact absurd q32 q35
 refine zH ?_
 refine xz true rfl rfl rfl rfl rfl rfl (by simp) ?_
 refine zH ?_
 refine vn rfl rfl rfl rfl rfl rfl (fun b=>by cases b<;>rfl) ?_
 refine zH ?_
 refine xz true rfl rfl rfl rfl rfl rfl (by simp) ?_
 refine zH ?_
 refine vn rfl rfl rfl rfl rfl rfl (fun b=>by cases b<;>rfl) ?_
 refine zH ?_
 refine dC ((vo _ (g.x zx)).cx) ?_
 rintro _ h36 n36 rfl y36 x36
 refine zH ?_
 refine zG ?_
 refine zf ?_
 exact rfl
theorem simplexRaw_ok (k:Nat)(g:GG h n)(io:Sl h n 1 (.slice ao lo co) (strs p.obj))(ir:RWS h n (.slice ar lr cr) p.rows)(iw:Sl h n 1 (.slice aw lw cw) (strs p.lower))(iu:Sl h n 1 (.slice au lu cu) (strs p.upper)){C:List (List UInt8)}(ix:Sl h n 1 (.slice ax lx cx) (strs S))(iy:Sl h n 1 (.slice ay ly cy) (strs R))(iz:Sl h n 1 (.slice az lz cz) (strs C))(b:Bool):VF (cal (k+15)) 3 [.agg #[.slice ao lo co,.slice ar lr cr,.slice aw lw cw,.slice au lu cu],.slice ax lx cx,.slice ay ly cy,.slice az lz cz,.bool b] h n fun v=>v=.bool true:=by
 cases b
 ·exact et k g io ir iw iu ix iy iz
 exact aG k g io ir iw iu ix iy iz
end
section
variable {ρ ρ':Ren}{b m n:Nat}{e:TypeId}
def upFn (nm:Nat→Nat):Fn→Fn
 | .yield l=>.yield (nm l)
 |f=>f
mutual
def up (nm:Nat→Nat):Value→Value
 | .pointer (some a)=>.pointer (some ⟨nm a.block,a.off,a.spot⟩)
 | .slice (some a) l c=>.slice (some ⟨nm a.block,a.off,a.spot⟩) l c
 | .func f a b=>.func (upFn nm f) (upA nm a) (upA nm b)
 | .agg cs=>.agg (upA nm cs)
 | .tuple cs=>.tuple (upA nm cs)
 |v=>v
def upA (nm:Nat→Nat):Array Value→Array Value
 |⟨l⟩=>⟨upL nm l⟩
def upL (nm:Nat→Nat):List Value→List Value
 |[]=>[]
 |v::r=>up nm v::upL nm r
end
mutual
theorem kB {nm:Nat→Nat}(hb:∀b,ρ.b (nm b)=b)(hx:∀b,ρ.x (nm b)=0):∀v:Value,conc ρ (up nm v)=v
 | .pointer none=>rfl
 | .pointer (some a)=>by simp [up,conc,Ren.addr,hb]
 | .slice none _ _=>rfl
 | .slice (some a) l c=>by simp [up,conc,Ren.addr,hb,hx]
 | .func f a b=>by
  have h1:ρ.fn (upFn nm f)=f:=by cases f<;>simp [upFn,Ren.fn,hb]
  simp only [up,conc,h1,r9 hb hx a,r9 hb hx b]
 | .agg cs=>by simp only [up,conc,r9 hb hx cs]
 | .tuple cs=>by simp only [up,conc,r9 hb hx cs]
 | .bool _=>by simp [up,conc]
 | .int _ _=>by simp [up,conc]
 | .float _ _=>by simp [up,conc]
 | .complex _ _ _=>by simp [up,conc]
 | .string _=>by simp [up,conc]
 | .map _=>by simp [up,conc]
 | .chan _=>by simp [up,conc]
 | .nilFunc=>by simp [up,conc]
 | .nilIface=>by simp [up,conc]
 | .iface _ _=>by simp [up,conc]
theorem r9 {nm:Nat→Nat}(hb:∀b,ρ.b (nm b)=b)(hx:∀b,ρ.x (nm b)=0):∀a:Array Value,qY ρ (upA nm a)=a
 |⟨l⟩=>by simp only [upA,qY,jX hb hx l]
theorem jX {nm:Nat→Nat}(hb:∀b,ρ.b (nm b)=b)(hx:∀b,ρ.x (nm b)=0):∀l:List Value,pq ρ (upL nm l)=l
 |[]=>rfl
 |v::r=>by simp only [upL,pq,kB hb hx v,jX hb hx r]
end
def bdFn:Fn→Nat
 | .yield l=>l+1
 |_=>0
mutual
def bd:Value→Nat
 | .pointer (some a)=>a.block+1
 | .slice (some a) _ _=>a.block+1
 | .func f a b=>bdFn f+bdA a+bdA b
 | .agg cs=>bdA cs
 | .tuple cs=>bdA cs
 |_=>0
def bdA:Array Value→Nat
 |⟨l⟩=>bdL l
def bdL:List Value→Nat
 |[]=>0
 |v::r=>bd v+bdL r
end
theorem ij (ha:Agr m ρ ρ'){a:Addr}(h:a.block<m):ρ'.addr a=ρ.addr a:=by
 unfold Ren.addr
 rw [(ha _ h).1]
mutual
theorem zds:∀(v:Value) (m:Nat),bd v≤m→Nb m v
 | .pointer none,m,_=>fun ρ ρ' _=>by simp
 | .pointer (some a),m,h=>fun ρ ρ' ha=>by
  simp only [bd] at h
  simp only [conc,ij ha (show a.block<m by omega)]
 | .slice none _ _,m,_=>fun ρ ρ' _=>by simp
 | .slice (some a) l c,m,h=>fun ρ ρ' ha=>by
  simp only [bd] at h
  simp only [conc,ij ha (show a.block<m by omega),(ha _ (show a.block<m by omega)).2]
 | .func f a b,m,h=>fun ρ ρ' ha=>by
  simp only [bd] at h
  have h1:ρ'.fn f=ρ.fn f:=by
   cases f<;>simp [Ren.fn]
   rename_i l
   exact (ha l (by simp only [bdFn] at h;omega)).1
  simp only [conc,h1,jr a m zo ρ ρ' ha,jr b m zo ρ ρ' ha]
 | .agg cs,m,h=>fun ρ ρ' ha=>by
  simp only [bd] at h
  simp only [conc,jr cs m h ρ ρ' ha]
 | .tuple cs,m,h=>fun ρ ρ' ha=>by
  simp only [bd] at h
  simp only [conc,jr cs m h ρ ρ' ha]
 | .bool _,m,_=>fun ρ ρ' _=>by simp [conc]
 | .int _ _,m,_=>fun ρ ρ' _=>by simp [conc]
 | .float _ _,m,_=>fun ρ ρ' _=>by simp [conc]
 | .complex _ _ _,m,_=>fun ρ ρ' _=>by simp [conc]
 | .string _,m,_=>fun ρ ρ' _=>by simp [conc]
 | .map _,m,_=>fun ρ ρ' _=>by simp [conc]
 | .chan _,m,_=>fun ρ ρ' _=>by simp [conc]
 | .nilFunc,m,_=>fun ρ ρ' _=>by simp [conc]
 | .nilIface,m,_=>fun ρ ρ' _=>by simp [conc]
 | .iface _ _,m,_=>fun ρ ρ' _=>by simp [conc]
theorem jr:∀(a:Array Value) (m:Nat),bdA a≤m→∀ρ ρ':Ren,Agr m ρ ρ'→qY ρ' a=qY ρ a
 |⟨l⟩,m,h=>fun ρ ρ' ha=>by
  simp only [bdA] at h
  simp only [qY,zb0 l m h ρ ρ' ha]
theorem zb0:∀(l:List Value) (m:Nat),bdL l≤m→∀ρ ρ':Ren,Agr m ρ ρ'→pq ρ' l=pq ρ l
 |[],m,_=>fun ρ ρ' _=>rfl
 |v::r,m,h=>fun ρ ρ' ha=>by
  simp only [bdL] at h
  simp only [pq,zds v m zo ρ ρ' ha,zb0 r m zo ρ ρ' ha]
end
theorem j8:∀{l:List Value} {v:Value},v∈l→bd v≤bdL l:=by
 intro l
 induction l with
 |nil=>intro v hv;cases hv
 |cons a l ih=>
  intro v hv
  simp only [bdL]
  rcases List.mem_cons.1 hv with rfl|hv
  ·omega
  have:=ih hv;omega
def uR (W:World)(b:Nat):Option (List Value):=match W.heap[b]? with|some (.cells c _ _)=>some c.toList|_=>none
noncomputable def wh (nm:Nat→Nat)(W:World):Nat→Hp
 |0=>.lf
 |k+1=>match uR W k with|some c=>Tr.put (wh nm W k) (nm k) (some (.ro (c.map (up nm))))|none=>wh nm W k
theorem fk {nm:Nat→Nat}(hi:∀a b,nm a=nm b→a=b)(W:World):∀k x y,(wh nm W k).at x=some y↔∃b,b<k∧x=nm b∧∃c,uR W b=some c∧y=.ro (c.map (up nm)):=by
 intro k
 induction k with
 |zero=>
  intro x y
  constructor
  ·intro h;cases h
  rintro ⟨b,hb,_⟩;omega
 |succ k ih=>
  intro x y
  unfold wh
  cases hc:uR W k with
  |none=>
   simp only
   rw [ih]
   constructor
   ·rintro ⟨b,hb,h⟩;exact ⟨b,zo,h⟩
   rintro ⟨b,hb,rfl,c,h1,h2⟩
   have:b≠k:=fun e=>by rw [e,hc] at h1;cases h1
   exact ⟨b,zo,rfl,c,h1,h2⟩
  |some c=>
   simp only
   show Tr.get none (Tr.put (wh nm W k) (nm k) _) x=some y↔_
   rw [Tr.get_put none rfl]
   by_cases hx:x=nm k
   ·rw [if_pos hx]
    constructor
    ·intro h;injection h with h;exact ⟨k,zo,hx,c,hc,h.symm⟩
    rintro ⟨b,hb,e,c',h1,h2⟩
    have hbk:b=k:=hi _ _ (e.symm.trans hx)
    rw [hbk,hc] at h1
    injection h1 with h1
    rw [h2,h1]
   rw [if_neg hx]
   show (wh nm W k).at x=some y↔_
   rw [ih]
   constructor
   ·rintro ⟨b,hb,h⟩;exact ⟨b,zo,h⟩
   rintro ⟨b,hb,e,h⟩
   have:b≠k:=fun ee=>hx (by rw [e,ee])
   exact ⟨b,zo,e,h⟩
def nm (b:Nat):Nat:=if b=1∨b=0∨b=4 then 3*b else 3*b+2
theorem mb (a b:Nat)(h:nm a=nm b):a=b:=by
 unfold nm at h
 split at h<;>split at h<;>omega
def ren0:Ren:=⟨fun x=>x/3,fun _=>0,fun _ _=>rfl,fun g=>by simp⟩
theorem qx (b:Nat):ren0.b (nm b)=b:=by
 unfold nm ren0
 split<;>simp<;>omega
theorem zhf (h:b<n):nm b<3*n:=by
 unfold nm
 split<;>omega
noncomputable def wH (W:World):Hp:=wh nm W W.heap.size
theorem zfa (W:World):Sim rel ren0 (wH W) W:=by
 refine ⟨fun x y h=>?_,fun x x' h h' e=>?_⟩
 ·obtain ⟨b,hb,rfl,c,hc,rfl⟩:=(fk mb W _ _ _).1 h
  unfold uR at hc
  split at hc
  ·rename_i c' e fz hW
   injection hc with hc
   subst hc
   refine ⟨_,by rw [qx];exact hW,e,fz,?_⟩
   rw [List.map_map]
   have:(c'.toList.map (conc ren0 ∘ up nm))=c'.toList:=by
    conv=>rhs;rw [←List.map_id c'.toList]
    exact List.map_congr_left fun v _=>kB qx (fun _=>rfl) v
   rw [this]
  cases hc
 obtain ⟨y,hy⟩:=Option.isSome_iff_exists.1 h
 obtain ⟨y',hy'⟩:=Option.isSome_iff_exists.1 h'
 obtain ⟨b,_,rfl,_⟩:=(fk mb W _ _ _).1 hy
 obtain ⟨b',_,rfl,_⟩:=(fk mb W _ _ _).1 hy'
 rw [qx,qx] at e
 rw [e]
structure Wn (W:World)(n:Nat):Prop where
 sz:W.heap.size≤n
 le:∀(b:Nat) (c:Array Value) (e:TypeId) (fz:Nat×Nat),W.heap[b]?=some (Obj.cells c e fz)→∀v∈c.toList,bd (up nm v)≤3*n
theorem zg3 (W:World)(args:List Value):∃n,20≤n∧Wn W n∧HNb (3*n) (wH W)∧∀v∈args,bd v≤3*n:=by
 have key:∀k,∃m,∀b,b<k→∀c,uR W b=some c→bdL (c.map (up nm))≤m:=by
  intro k
  induction k with
  |zero=>exact ⟨0,fun b hb=>by omega⟩
  |succ k ih=>
   obtain ⟨m,hm⟩:=ih
   cases hc:uR W k with
   |none=>exact ⟨m,fun b hb c h=>hm b (by (have:b≠k:=fun e=>by rw [e,hc] at h;cases h);omega) c h⟩
   |some c'=>
    refine ⟨m+bdL (c'.map (up nm)),fun b hb c h=>?_⟩
    by_cases hbk:b=k
    ·rw [hbk,hc] at h;injection h with h;subst h;omega
    have:=hm b zo c h;omega
 obtain ⟨m,hm⟩:=key W.heap.size
 refine ⟨20+W.heap.size+m+bdL args,zo,⟨zo,fun b c e fz hW v hvm=>?_⟩,fun x y h=>?_,fun v hv=>by have:=j8 hv;omega⟩
 ·have hb:b<W.heap.size:=by
   rcases Nat.lt_or_ge b W.heap.size with h'|h'
   ·exact h'
   rw [Array.getElem?_eq_none h'] at hW;cases hW
  have h1:=hm b hb c.toList (by unfold uR;rw [hW])
  have h2:=j8 (List.mem_map_of_mem (f:=up nm) hvm)
  omega
 obtain ⟨b,hb,rfl,c,hc,rfl⟩:=(fk mb W _ _ _).1 h
 exact ⟨zhf zo,fun v hv=>zds v _ (by have:=j8 hv;have:=hm b hb c hc;omega)⟩
theorem kW {W:World}{c:Array Value}{fz:Nat×Nat}(h:W.heap[b]?=some (.cells c e fz)):hv (wH W) (nm b)=some (.ro (c.toList.map (up nm))):=by
 have hb:b<W.heap.size:=by
  rcases Nat.lt_or_ge b W.heap.size with h'|h'
  ·exact h'
  rw [Array.getElem?_eq_none h'] at h;cases h
 exact zd5 ((fk mb W _ _ _).2 ⟨b,hb,rfl,_,by unfold uR;rw [h],rfl⟩)
theorem gR {W:World}(f:FuncId)(args:List Value)(k:Nat)(hrun:∀n,20≤n→Wn W n→(∀v∈args.map (up nm),bd v≤3*n)→VF (cal k) f (args.map (up nm)) (hv (wH W)) n fun v=>v=.bool true):
  Calls Tryz.prog f args.toArray W fun e w'=>e=.returned (.bool true)∧RowKit.Below W.heap.size W w':=by
 obtain ⟨n,hn,hs,hnb,hbd⟩:=zg3 W (args.map (up nm))
 have ha:∀v∈args.map (up nm),Nb (3*n) v:=fun v hv=>zds v _ (hbd v hv)
 obtain ⟨v,h',n',w,hc,e1,e2,e3,e4⟩:=hrun n hn hs hbd
 rw [e1,e2,e3,e4] at hc
 obtain ⟨⟨v2,h2,n2,w2⟩,hx,hy⟩:=(zew k).call f (args.map (up nm)) (wH W) n _ hc
 obtain ⟨e1,e2,e3,e4⟩:v2=.bool true∧hv h2=hv (wH W)∧n2=n∧w2=[]:=by
  simpa [rv] using hy
 subst e1 e3 e4
 obtain ⟨_,hcall⟩:=(zgp k).call _ _ _ _ _ _ _ _ hx 0 ren0 W (zfa W) hnb ha
 have hargs:((args.map (up nm)).map (conc ren0))=args:=by
  rw [List.map_map]
  conv=>rhs;rw [←List.map_id args]
  exact List.map_congr_left fun v _=>kB qx (fun _=>rfl) v
 rw [hargs] at hcall
 refine (callsIn_wide.1 hcall).mono fun e w' ⟨ρ',he,hp⟩=>⟨by rw [he];simp,?_⟩
 exact ⟨hp.os,hp.tape,hp.out,hp.size,fun j hj=>hp.fr j hj fun b hb=>absurd hb List.not_mem_nil⟩
end
end Go.Proofs.YtlmbghgklnmlkaaGreatDoor
namespace Go.Proofs.YtlmbghgklnmlkaaGreatDoor
open Go Go.GL Go.ChangeShapes Go.WideShapes Go.RowKit
section
set_option maxRecDepth 100000
variable {H:Type}{fuel g n:Nat}{e t:TypeId}{cs:List Value}
theorem kg {enc:TypeId×Value→H}{P:Program}{w:World}{base:Nat}{sp:Nat→Bool}{held:Bool}{k:IntKind}{c:Value}{y:DataW H×List MemPlace}
  (ht:P.underlying t=some (.int k))(h:DataW.trod enc P w base sp held fuel t [c]=some y):∃n,c=.int k n∧y=(.lit (.int k n),[]):=by
 cases fuel with
 |zero=>simp [DataW.trod] at h
 |succ fuel=>
  cases c<;>simp [DataW.trod,ht] at h
  rename_i k' n
  obtain ⟨⟨rfl,_⟩,rfl⟩:=h
  exact ⟨n,rfl,rfl⟩
theorem nf {enc:TypeId×Value→H}{P:Program}{w:World}{base:Nat}{sp:Nat→Bool}{held:Bool}{k:IntKind}{l:List Int}{p:List MemPlace}
  (ht:P.underlying t=some (.array n e))(he:P.underlying e=some (.int k))(hce:P.cellsOf e=1)(hct:P.cellsOf t=n)
  (h:DataW.trod enc P w base sp held fuel t cs=some (.agg (l.map fun z=>.lit (.int k z)),p)):cs=l.map fun z=>Value.int k z:=by
 cases fuel with
 |zero=>simp [DataW.trod] at h
 |succ fuel=>
  simp only [DataW.trod,ht] at h
  split at h
  ·rename_i hl
   rw [hct] at hl
   rw [Option.map_eq_some_iff] at h
   obtain ⟨xs,hx,hy⟩:=h
   simp only [Prod.mk.injEq,DataW.agg.injEq] at hy
   obtain ⟨hy,_⟩:=hy
   have hlen:=mapM_some_length hx
   rw [List.length_range] at hlen
   have hll:l.length=n:=by
    have:=congrArg List.length hy
    simp at this
    omega
   apply List.ext_getElem?
   intro i
   by_cases hi:i<n
   ·have hg:=mapM_some_get hx i i (by simp [hi])
    obtain ⟨y,hxi⟩:∃y,xs[i]?=some y:=⟨xs[i]'zo,List.getElem?_eq_getElem zo⟩
    rw [hxi,hce,Nat.mul_one] at hg
    have hd:(cs.drop i).take 1=[cs[i]'zo]:=by
     rw [List.drop_eq_getElem_cons zo]
     rfl
    rw [hd] at hg
    obtain ⟨z,hz,rfl⟩:=kg he hg
    have h2:=congrArg (fun q=>q[i]?) hy
    simp only [List.getElem?_map,hxi,Option.map_some] at h2
    obtain ⟨z',hz'⟩:∃z',l[i]?=some z':=⟨l[i]'zo,List.getElem?_eq_getElem zo⟩
    rw [hz'] at h2
    simp only [Option.map_some,Option.some.injEq,DataW.lit.injEq,Lit.int.injEq,true_and] at h2
    rw [List.getElem?_eq_getElem zo,hz,List.getElem?_map,hz',h2]
    rfl
   rw [List.getElem?_eq_none zo,List.getElem?_eq_none (by simp;omega)]
  cases h
theorem ft {P:Program}{W:World}{nme:String}{cs:Array Value}(hg:P.globalNamed nme=some g)(hv:W.var? P nme=some cs):∃e fz,W.heap[g]?=some (.cells cs e fz):=by
 unfold World.var? at hv
 rw [hg] at hv
 simp only [Option.bind_some] at hv
 split at hv
 ·rename_i cs' e fz h
  injection hv with hv
  subst hv
  exact ⟨e,fz,h⟩
 cases hv
theorem up_u (nm:Nat→Nat)(k:IntKind)(l:List Int):(GK.u k l).map (up nm)=GK.u k l:=by
 unfold GK.u
 rw [List.map_map]
 exact List.map_congr_left fun z _=>rfl
def gk:List (String×DataW Unit):=Rows.simplexRawRow.laid
def oQ (i:Nat):String:=match gk[i]? with|some x=>x.1|none=> ""
theorem g32:Tryz.prog.globalNamed (oQ 0)=some 4:=by kernel_rfl
theorem g64:Tryz.prog.globalNamed (oQ 1)=some 1:=by kernel_rfl
theorem g10:Tryz.prog.globalNamed (oQ 2)=some 0:=by kernel_rfl
def zah (t:TypeId)(n:Nat)(k:IntKind):Prop:=∃e,Tryz.prog.underlying t=some (.array n e)∧Tryz.prog.underlying e=some (.int k)∧Tryz.prog.cellsOf e=1∧Tryz.prog.cellsOf t=n
theorem qi {W:World}{nme:String}{t:Nat}{k:IntKind}{l:List Int}{cs:Array Value}{p:List MemPlace}(hg:Tryz.prog.globalNamed nme=some g)(hvar:W.var? Tryz.prog nme=some cs)(hT:zah t n k)
  (hd:DataW.trod (fun _=>()) Tryz.prog W 0 (fun _=>true) false fuel t cs.toList=some (.agg (l.map fun z=>.lit (.int k z)),p)):hv (wH W) (nm g)=some (.ro (GK.u k l)):=by
 obtain ⟨e,h1,h2,h3,h4⟩:=hT
 have hc:=nf h1 h2 h3 h4 hd
 obtain ⟨e',fz,hb⟩:=ft hg hvar
 have:=kW hb
 rw [this,hc]
 show some (BF.ro ((GK.u k l).map (up nm)))=_
 rw [up_u]
theorem ty32:(Tryz.prog.globals[4]?).map (·.type)=some 263:=by kernel_rfl
theorem ty64:(Tryz.prog.globals[1]?).map (·.type)=some 260:=by kernel_rfl
theorem ty10:(Tryz.prog.globals[0]?).map (·.type)=some 244:=by kernel_rfl
theorem zg5:zah 263 32 .u8:=⟨5,by kernel_rfl,by kernel_rfl,by kernel_rfl,by kernel_rfl⟩
theorem zg4:zah 260 64 .u8:=⟨5,by kernel_rfl,by kernel_rfl,by kernel_rfl,by kernel_rfl⟩
theorem zg6:zah 244 20 .u64:=⟨170,by kernel_rfl,by kernel_rfl,by kernel_rfl,by kernel_rfl⟩
theorem bL {W:World}(h:laidMet Tryz.prog gk W):GK.G (hv (wH W)):=by
 obtain ⟨ps,hL,_,_⟩:=h
 obtain ⟨g1,t1,cs1,fu1,p1,q1,e1,u1,v1,d1,hL,_⟩:=hL
 obtain ⟨g2,t2,cs2,fu2,p2,q2,e2,u2,v2,d2,hL,_⟩:=hL
 obtain ⟨g3,t3,cs3,fu3,p3,q3,e3,u3,v3,d3,_,_⟩:=hL
 obtain rfl:=Option.some.inj (g32.symm.trans e1)
 obtain rfl:=Option.some.inj (g64.symm.trans e2)
 obtain rfl:=Option.some.inj (g10.symm.trans e3)
 obtain rfl:=Option.some.inj (ty32.symm.trans u1)
 obtain rfl:=Option.some.inj (ty64.symm.trans u2)
 obtain rfl:=Option.some.inj (ty10.symm.trans u3)
 exact ⟨qi e2 v2 zg4 d2,qi e3 v3 zg6 d3,qi e1 v1 zg5 d1⟩
end
section
set_option maxRecDepth 100000
variable {fuel i l n sz:Nat}{e t:TypeId}{v:Value}{α:Type}{cs:List Value}
mutual
theorem zba {H:Type}:∀d:DataW H,1≤Rows.uptoBulk d
 | .lit (.string b)=>by simp [Rows.uptoBulk]
 | .lit (.bool b)=>by simp [Rows.uptoBulk]
 | .lit (.int k b)=>by simp [Rows.uptoBulk]
 | .lit (.float k b)=>by simp [Rows.uptoBulk]
 | .lit .nil=>by simp [Rows.uptoBulk]
 | .nil=>by simp [Rows.uptoBulk]
 | .ptr d=>by simp [Rows.uptoBulk]
 | .slice _ _=>by simp [Rows.uptoBulk]
 | .agg _=>by simp [Rows.uptoBulk]
 | .iface _ d=>by simp [Rows.uptoBulk]
 | .map _=>by simp [Rows.uptoBulk]
 | .held _=>by simp [Rows.uptoBulk]
end
theorem kD {H:Type}:∀l:List (DataW H),l.length≤Rows.uptoBulkAll l:=by
 intro l
 induction l with
 |nil=>simp
 |cons d l ih=>have:=zba d;simp only [List.length_cons,Rows.uptoBulkAll];omega
theorem q7 {H:Type}{d:DataW H}:∀{l:List (DataW H)},d∈l→Rows.uptoBulk d≤Rows.uptoBulkAll l:=by
 intro l
 induction l with
 |nil=>intro h;cases h
 |cons e l ih=>
  intro h
  simp only [Rows.uptoBulkAll]
  rcases List.mem_cons.1 h with rfl|h
  ·omega
  have:=ih h;omega
theorem zbb {a:Addr}{c:Nat}(h:bd (up nm (.slice (some a) l c))≤3*n):nm a.block<3*n:=by
 simp only [up,bd] at h
 omega
theorem mP (a:Addr)(i:Nat):(a.add i).block=a.block:=by unfold Addr.add;split<;>rfl
theorem bK (a:Addr)(i:Nat):(a.add i).off=a.off+i:=by unfold Addr.add;split<;>simp_all
theorem mO (a:Addr):a.add 0=a:=by unfold Addr.add;simp
section
variable {H:Type}{enc:TypeId×Value→H}{W:World}{held:Bool}
theorem pG {d:DataW H}{p:List MemPlace}(hW:Wn W n)(ht:Tryz.prog.underlying t=some (.slice e))(hsz:Tryz.prog.cellsOf e=sz)(h0:0<sz)(h:DataW.trod enc Tryz.prog W 0 (fun _=>true) held fuel t [v]=some (d,p))(hb:bd (up nm v)≤3*n):
  ∃(a:Option Addr) (l c:Nat) (cells:List Value),v=.slice a l c∧Sl (hv (wH W)) n sz (up nm v) (cells.map (up nm))∧cells.length=l*sz∧l≤Rows.uptoBulk d∧(∀x∈cells,bd (up nm x)≤3*n)∧
   ∀i,i<l→∃fu D q,DataW.trod enc Tryz.prog W 0 (fun _=>true) held fu e ((cells.drop (i*sz)).take sz)=some (D,q)∧Rows.uptoBulk D≤Rows.uptoBulk d:=by
 rcases Go.Deep.open_slice ht h with ⟨hv,hd⟩|⟨a,len,cap,m,fu,D,Pl,hv,_,hle,_,hm,hx,hel⟩
 ·injection hv with hv
  injection hd with hd
  subst hv hd
  exact ⟨none,0,0,[],rfl,.nil (.inl rfl),by simp,Nat.zero_le _,(fun x hx=>by cases hx),fun i hi=>absurd hi (Nat.not_lt_zero i)⟩
 injection hv with hv
 injection hx with hx _
 subst hv hx
 have hm':m=cap:=by rw [hm];rfl
 subst hm'
 rw [hsz] at hel
 have hbl:nm a.block<3*n:=zbb hb
 have hlb:len≤Rows.uptoBulk (DataW.slice ((List.range len).map D) ((List.range (m-len)).map fun j=>D (len+j))):=by
  have:=kD ((List.range len).map D)
  rw [List.length_map,List.length_range] at this
  simp only [Rows.uptoBulk]
  omega
 have hmem:∀i,i<len→Rows.uptoBulk (D i)≤Rows.uptoBulk (DataW.slice ((List.range len).map D) ((List.range (m-len)).map fun j=>D (len+j))):=fun i hi=>by
  have:=q7 (d:=D i) (l:=(List.range len).map D) (List.mem_map_of_mem (List.mem_range.2 hi))
  simp only [Rows.uptoBulk]
  omega
 by_cases hc0:m=0
 ·have hl0:len=0:=zo
  subst hl0
  refine ⟨some a,0,m,[],rfl,.nil (.inr ⟨_,_,_,rfl,hbl⟩),by simp,Nat.zero_le _,(fun x hx=>by cases hx),fun i hi=>absurd hi (Nat.not_lt_zero i)⟩
 have hcell:∀i,i<m→∃cs,DataW.trod enc Tryz.prog W 0 (fun _=>true) held fu e cs=some (D i,Pl i)∧cs.length=sz∧∀j,j<sz→W.cell? ((a.add (i*sz)).add j)=cs[j]?:=fun i hi=>by
  obtain ⟨cs,h1,h2⟩:=hel i hi
  obtain ⟨_,h3,h4⟩:=World.cells?_some h1
  exact ⟨cs,h2,h3,h4⟩
 have hblk:a.spot=none∧∃c e' fz,W.heap[a.block]?=some (.cells c e' fz):=by
  obtain ⟨cs,_,h2,h1⟩:=hcell 0 zo
  have h1:=h1 0 h0
  rw [Nat.zero_mul,mO,mO,List.getElem?_eq_getElem zo] at h1
  unfold World.cell? at h1
  split at h1
  ·split at h1
   ·cases h1
   rename_i hs
   exact ⟨by simpa using hs,_,_,_,by assumption⟩
  cases h1
 obtain ⟨hspot,c,e',fz,hbk⟩:=hblk
 obtain ⟨b,off,sp⟩:=a
 simp only at hspot hbk hbl
 subst hspot
 have hget:∀i,i<m→∃cs,DataW.trod enc Tryz.prog W 0 (fun _=>true) held fu e cs=some (D i,Pl i)∧cs.length=sz∧∀j,j<sz→c[off+i*sz+j]?=cs[j]?:=fun i hi=>by
  obtain ⟨cs,h2,h4,h3⟩:=hcell i hi
  refine ⟨cs,h2,h4,fun j hj=>?_⟩
  rw [←h3 j hj]
  have e1:((Addr.add ⟨b,off,none⟩ (i*sz)).add j).block=b:=by rw [mP,mP]
  have e2:((Addr.add ⟨b,off,none⟩ (i*sz)).add j).off=off+i*sz+j:=by rw [bK,bK]
  have e3:((Addr.add ⟨b,off,none⟩ (i*sz)).add j).spot=none:=by
   unfold Addr.add
   split
   ·split<;>rfl
   rfl
  unfold World.cell?
  rw [e1,hbk]
  simp only [e2,e3]
  rfl
 have hsz':off+m*sz≤c.size:=by
  obtain ⟨cs,_,h3,h2⟩:=hget (m-1) zo
  have h2:=h2 (sz-1) zo
  rw [List.getElem?_eq_getElem zo] at h2
  rcases Nat.lt_or_ge (off+(m-1)*sz+(sz-1)) c.size with h'|h'
  ·have:(m-1)*sz+sz=m*sz:=by rw [←Nat.succ_mul];congr 1;omega
   omega
  rw [Array.getElem?_eq_none h'] at h2;cases h2
 have hlm:len*sz≤m*sz:=Nat.mul_le_mul_right _ hle
 have hcl:((c.toList.drop off).take (len*sz)).length=len*sz:=by
  rw [List.length_take,List.length_drop,Array.length_toList];omega
 refine ⟨some ⟨b,off,none⟩,len,m,(c.toList.drop off).take (len*sz),rfl,.at_ hbl (kW hbk) rfl hle (by show off+len*sz≤(c.toList.map (up nm)).length;simp;omega) (by rw [List.map_take,List.map_drop]),hcl,hlb,fun x hx=>hW.le b c e' fz hbk x (List.mem_of_mem_drop (List.mem_of_mem_take hx)),fun i hi=>?_⟩
 obtain ⟨cs,h1,h3,h4⟩:=hget i zo
 have hcs:(((c.toList.drop off).take (len*sz)).drop (i*sz)).take sz=cs:=by
  have hil:i*sz+sz≤len*sz:=by rw [←Nat.succ_mul];exact Nat.mul_le_mul_right _ hi
  apply List.ext_getElem?
  intro j
  by_cases hj:j<sz
  ·rw [List.getElem?_take_of_lt hj,List.getElem?_drop,List.getElem?_take_of_lt zo,List.getElem?_drop,Array.getElem?_toList,←h4 j hj,Nat.add_assoc]
  rw [List.getElem?_eq_none (by rw [List.length_take,List.length_drop,hcl];omega),List.getElem?_eq_none zo]
 exact ⟨fu,D i,Pl i,by rw [hcs];exact h1,hmem i hi⟩
theorem zcn {g:α→List Value}{Q:α→Prop}:∀{l:Nat} {cells:List Value},cells.length=l*sz→(∀i,i<l→∃x,(cells.drop (i*sz)).take sz=g x∧Q x)→∃xs:List α,xs.length=l∧cells=xs.flatMap g∧∀x∈xs,Q x:=by
 intro l
 induction l with
 |zero=>intro cells hl _;exact ⟨[],rfl,List.length_eq_zero_iff.1 (by rw [hl,Nat.zero_mul]),fun x hx=>by cases hx⟩
 |succ l ih=>
  intro cells hl h
  obtain ⟨x,hx,hq⟩:=h 0 zo
  rw [Nat.zero_mul,List.drop_zero] at hx
  obtain ⟨xs,h1,h2,h3⟩:=ih (cells:=cells.drop sz) (by rw [List.length_drop,hl,Nat.succ_mul];omega) (fun i hi=>by
   obtain ⟨y,hy,hq⟩:=h (i+1) zo
   exact ⟨y,by rw [List.drop_drop,←hy,Nat.succ_mul,Nat.add_comm],hq⟩)
  refine ⟨x::xs,by rw [List.length_cons,h1],?_,fun y hy=>?_⟩
  ·rw [List.flatMap_cons,←hx,←h2,List.take_append_drop]
  rcases List.mem_cons.1 hy with rfl|hy
  ·exact hq
  exact h3 y hy
theorem ot {c:Value}{y:DataW H×List MemPlace}(ht:Tryz.prog.underlying t=some .string)(h:DataW.trod enc Tryz.prog W 0 (fun _=>true) held fuel t [c]=some y):∃s:List UInt8,c=.string ⟨⟨s⟩⟩:=by
 cases fuel with
 |zero=>simp [DataW.trod] at h
 |succ fuel=>
  cases c<;>simp [DataW.trod,ht] at h
  rename_i s
  exact ⟨s.data.toList,rfl⟩
theorem aM {cells:List Value}(hl:cells.length=l*1)(hi:i<l):∃v,(cells.drop (i*1)).take 1=[v]:=by
 rw [Nat.mul_one] at hl ⊢
 exact ⟨cells[i]'zo,by rw [List.drop_eq_getElem_cons zo];rfl⟩
theorem uE {d:DataW H}{p:List MemPlace}(hW:Wn W n)(ht:Tryz.prog.underlying t=some (.slice e))(he:Tryz.prog.underlying e=some .string)(hsz:Tryz.prog.cellsOf e=1)(h:DataW.trod enc Tryz.prog W 0 (fun _=>true) held fuel t [v]=some (d,p))(hb:bd (up nm v)≤3*n):
  ∃S:List (List UInt8),Sl (hv (wH W)) n 1 (up nm v) (strs S)∧S.length≤Rows.uptoBulk d:=by
 obtain ⟨a,l,c,cells,rfl,h1,h2,h3,_,h5⟩:=pG hW ht hsz zd h hb
 obtain ⟨L,h6,h7,h9⟩:=zcn (g:=fun s:List UInt8=>[Value.string ⟨⟨s⟩⟩]) (Q:=fun _=>True) h2 (fun i hi=>by
  obtain ⟨v,hv⟩:=aM h2 hi
  obtain ⟨fu,D,q,h8,_⟩:=h5 i hi
  rw [hv] at h8 ⊢
  obtain ⟨z,rfl⟩:=ot he h8
  exact ⟨z,rfl,trivial⟩)
 refine ⟨L,?_,zo⟩
 have:cells.map (up nm)=strs L:=by
  rw [h7]
  clear h9 h7 h6
  induction L with
  |nil=>rfl
  |cons z L ih=>rw [List.flatMap_cons,List.map_append,ih];rfl
 rw [←this];exact h1
noncomputable def parts (t:TypeId):Option (List (TypeId×Nat)):=match Tryz.prog.underlying t with|some (.struct fs)=>some (fs.toList.map fun f=>(f.type,f.offset))|_=>none
theorem qj {L:List (TypeId×Nat)}{d:DataW H}{p:List MemPlace}(hp:parts t=some L)(h:DataW.trod enc Tryz.prog W 0 (fun _=>true) held fuel t cs=some (d,p)):
  cs.length=Tryz.prog.cellsOf t∧∃fu xs,d=.agg xs∧∀(i:Nat) (f:TypeId×Nat),L[i]?=some f→∃D q,DataW.trod enc Tryz.prog W 0 (fun _=>true) held fu f.1 ((cs.drop f.2).take (Tryz.prog.cellsOf f.1))=some (D,q)∧D∈xs:=by
 cases fuel with
 |zero=>simp [DataW.trod] at h
 |succ fuel=>
  unfold parts at hp
  split at hp
  ·rename_i fs hfs
   injection hp with hp
   simp only [DataW.trod,hfs] at h
   split at h
   ·rename_i hl
    refine ⟨hl,?_⟩
    rw [Option.map_eq_some_iff] at h
    obtain ⟨xs,hx,hy⟩:=h
    injection hy with hy _
    refine ⟨fuel,xs.map (·.1),hy.symm,fun i f hf=>?_⟩
    subst hp
    rw [List.getElem?_map,Option.map_eq_some_iff] at hf
    obtain ⟨g,hg,rfl⟩:=hf
    have hlen:=mapM_some_length hx
    have hi:i<fs.toList.length:=by
     rcases Nat.lt_or_ge i fs.toList.length with h'|h'
     ·exact h'
     rw [List.getElem?_eq_none h'] at hg;cases hg
    have h2:=mapM_some_get hx i g hg
    obtain ⟨y,hxi⟩:∃y,xs[i]?=some y:=⟨xs[i]'zo,List.getElem?_eq_getElem zo⟩
    rw [hxi] at h2
    exact ⟨y.1,y.2,h2,List.mem_map_of_mem (List.mem_of_getElem? hxi)⟩
   cases h
  cases hp
theorem zez {xs:List (DataW H)}{D:DataW H}(h:D∈xs):Rows.uptoBulk D≤Rows.uptoBulk (.agg xs):=by
 have:=q7 h
 simp only [Rows.uptoBulk]
 omega
end
end
section
set_option maxRecDepth 100000
variable {α:Type}{h:HF}{fuel n sz:Nat}{v:Value}{c cs:List Value}
theorem zhi {l:List α}(h:l.length=4):∃a b c d,l=[a,b,c,d]:=by
 match l,h with
 |[a,b,c,d],_=>exact ⟨a,b,c,d,rfl⟩
theorem zhj {l:List α}(h:l.length=3):∃a b c,l=[a,b,c]:=by
 match l,h with
 |[a,b,c],_=>exact ⟨a,b,c,rfl⟩
theorem mX:Tryz.prog.underlying 9=some .string:=by kernel_rfl
theorem kZ:Tryz.prog.underlying 22=some (.slice 9):=by kernel_rfl
theorem zfe:Tryz.prog.underlying 23=some (.slice 45):=by kernel_rfl
theorem gV:Tryz.prog.cellsOf 9=1:=by kernel_rfl
theorem zco:Tryz.prog.cellsOf 22=1:=by kernel_rfl
theorem zgq:Tryz.prog.cellsOf 23=1:=by kernel_rfl
theorem zgr:Tryz.prog.cellsOf 45=3:=by kernel_rfl
theorem c_lp:Tryz.prog.cellsOf 25=4:=by kernel_rfl
theorem zhc:parts 45=some [(22,0),(9,1),(9,2)]:=by kernel_rfl
theorem p_lp:parts 25=some [(22,0),(23,1),(22,2),(22,3)]:=by kernel_rfl
theorem Sl.sh (s:Sl h n sz v c):∃a l k,v=.slice a l k:=by
 cases s with
 |nil ha=>exact ⟨_,_,_,rfl⟩
 |at_ hb hx hc hcap hl he=>exact ⟨_,_,_,rfl⟩
theorem Rec.flat {D:Type}{P:List Value→D→Prop}{g:D→List Value}:∀{l:List D},(∀x∈l,(g x).length=sz∧P (g x) x)→Rec sz P (l.flatMap g) l:=by
 intro l
 induction l with
 |nil=>intro _;exact .nil
 |cons x l ih=>
  intro h
  rw [List.flatMap_cons]
  exact .cons (h x List.mem_cons_self).1 (h x List.mem_cons_self).2 (ih fun y hy=>h y (List.mem_cons_of_mem _ hy))
theorem Rec.map {D E:Type}{P:List Value→D→Prop}{P':List Value→E→Prop}{f:D→E}{l:List D}(r:Rec sz P cs l)(h:∀c d,P c d→P' c (f d)):Rec sz P' cs (l.map f):=by
 induction r with
 |nil=>exact .nil
 |cons hl hp hr ih=>exact .cons hl (h _ _ hp) ih
section
variable {H:Type}{enc:TypeId×Value→H}{W:World}{held:Bool}
theorem ei {d:DataW H}{p:List MemPlace}(hW:Wn W n)(h:DataW.trod enc Tryz.prog W 0 (fun _=>true) held fuel 23 [v]=some (d,p))(hb:bd (up nm v)≤3*n):
  ∃rs,RWS (hv (wH W)) n (up nm v) rs∧rs.length≤Rows.uptoBulk d∧∀r∈rs,r.A.length≤Rows.uptoBulk d:=by
 obtain ⟨a,l,c,cells,rfl,h1,h2,h3,h4,h5⟩:=pG hW zfe zgr zd h hb
 obtain ⟨L,h6,h7,h9⟩:=zcn (α:=RowD×Value) (g:=fun x=>[x.2,.string ⟨⟨x.1.lo⟩⟩,.string ⟨⟨x.1.hi⟩⟩]) (Q:=fun x=>Sl (hv (wH W)) n 1 (up nm x.2) (strs x.1.A)∧x.1.A.length≤Rows.uptoBulk d) h2 (fun i hi=>by
  obtain ⟨fu,D,q,h8,h8b⟩:=h5 i hi
  have hmem:∀x∈(cells.drop (i*3)).take 3,bd (up nm x)≤3*n:=fun x hx=>h4 x (List.mem_of_mem_drop (List.mem_of_mem_take hx))
  generalize (cells.drop (i*3)).take 3=cs at h8 hmem ⊢
  obtain ⟨hl,fu',xs,rfl,hx⟩:=qj zhc h8
  rw [zgr] at hl
  obtain ⟨c0,c1,c2,rfl⟩:=zhj hl
  obtain ⟨D0,_,g0,m0⟩:=hx 0 _ rfl
  obtain ⟨_,_,g1,_⟩:=hx 1 _ rfl
  obtain ⟨_,_,g2,_⟩:=hx 2 _ rfl
  simp only [zco,gV] at g0 g1 g2
  have b0:=zez m0
  obtain ⟨S,s1,s2⟩:=uE hW kZ mX gV g0 (hmem c0 (by simp))
  obtain ⟨s,rfl⟩:=ot mX g1
  obtain ⟨t,rfl⟩:=ot mX g2
  exact ⟨(⟨S,s,t⟩,c0),rfl,s1,by show S.length≤_;omega⟩)
 refine ⟨L.map (·.1),⟨cells.map (up nm),h1,?_⟩,by rw [List.length_map];omega,fun r hr=>?_⟩
 ·have e:cells.map (up nm)=L.flatMap fun x=>[up nm x.2,.string ⟨⟨x.1.lo⟩⟩,.string ⟨⟨x.1.hi⟩⟩]:=by
   rw [h7]
   clear h9 h7 h6
   induction L with
   |nil=>rfl
   |cons z L ih=>rw [List.flatMap_cons,List.map_append,ih];rfl
  rw [e]
  refine (Rec.flat (sz:=3) (P:=fun c (x:RowD×Value)=>rowP c x.1 (hv (wH W)) n) fun x hx=>⟨rfl,?_⟩).map fun c d hd=>hd
  obtain ⟨q1,_⟩:=h9 x hx
  obtain ⟨a2,l2,k2,e2⟩:=q1.sh
  rw [e2] at q1 ⊢
  exact ⟨_,_,_,rfl,q1⟩
 obtain ⟨x,hx,rfl⟩:=List.mem_map.1 hr
 exact (h9 x hx).2
theorem zdy {d:DataW H}{p:List MemPlace}(hW:Wn W n)(ha:∃cs,v=.agg cs)(h:DataW.Trod enc Tryz.prog W 0 (fun _=>true) held 25 v d p)(hb:bd (up nm v)≤3*n):
  ∃(ao:Option Addr) (lo co:Nat) (ar:Option Addr) (lr cr:Nat) (aw:Option Addr) (lw cw:Nat) (au:Option Addr) (lu cu:Nat) (q:LPD),up nm v=.agg #[.slice ao lo co,.slice ar lr cr,.slice aw lw cw,.slice au lu cu]∧Sl (hv (wH W)) n 1 (.slice ao lo co) (strs q.obj)∧RWS (hv (wH W)) n (.slice ar lr cr) q.rows∧Sl (hv (wH W)) n 1 (.slice aw lw cw) (strs q.lower)∧Sl (hv (wH W)) n 1 (.slice au lu cu) (strs q.upper):=by
 obtain ⟨cs,rfl⟩:=ha
 obtain ⟨fuel,h⟩:=h
 obtain ⟨hl,fu,xs,rfl,hx⟩:=qj p_lp h
 rw [c_lp] at hl
 obtain ⟨c0,c1,c2,c3,hcs⟩:=zhi hl
 have hcs':cs=#[c0,c1,c2,c3]:=by
  cases cs
  simp [Value.cells] at hcs
  simp [hcs]
 subst hcs'
 have hbd:∀x∈[c0,c1,c2,c3],bd (up nm x)≤3*n:=fun x hx=>by
  have:=j8 (List.mem_map_of_mem (f:=up nm) hx)
  have e:bd (up nm (.agg #[c0,c1,c2,c3]))=bdL ([c0,c1,c2,c3].map (up nm)):=rfl
  omega
 rw [hcs] at hx
 obtain ⟨D0,_,g0,m0⟩:=hx 0 _ rfl
 obtain ⟨D1,_,g1,m1⟩:=hx 1 _ rfl
 obtain ⟨D2,_,g2,m2⟩:=hx 2 _ rfl
 obtain ⟨D3,_,g3,m3⟩:=hx 3 _ rfl
 simp only [zco,zgq] at g0 g1 g2 g3
 obtain ⟨O,e0,_⟩:=uE hW kZ mX gV g0 (hbd c0 (by simp))
 obtain ⟨rs,e1,_⟩:=ei hW g1 (hbd c1 (by simp))
 obtain ⟨A,e2,_⟩:=uE hW kZ mX gV g2 (hbd c2 (by simp))
 obtain ⟨B,e3,_⟩:=uE hW kZ mX gV g3 (hbd c3 (by simp))
 obtain ⟨_,_,_,f0⟩:=e0.sh
 obtain ⟨cells,e1s,e1r⟩:=e1
 obtain ⟨_,_,_,f1⟩:=e1s.sh
 obtain ⟨_,_,_,f2⟩:=e2.sh
 obtain ⟨_,_,_,f3⟩:=e3.sh
 rw [f0] at e0
 rw [f1] at e1s
 rw [f2] at e2
 rw [f3] at e3
 refine ⟨_,_,_,_,_,_,_,_,_,_,_,_,⟨O,rs,A,B⟩,?_,e0,⟨cells,e1s,e1r⟩,e2,e3⟩
 show Value.agg #[up nm c0,up nm c1,up nm c2,up nm c3]=_
 rw [f0,f1,f2,f3]
end
end
section
set_option maxRecDepth 100000
theorem own:ownKnob Tryz.prog.godebug=none:=by kernel_rfl
theorem qK:laidOutB Tryz.prog=true:=by kernel_rfl
def oO (c:Array Value):Obj→Obj
 | .cells _ t frozen=>.cells c t frozen
 |o=>o
noncomputable def mn (os:Os):World:=
 {World.holding Tryz.prog os ⟨#[],#[],[]⟩ with heap:=(((World.holding Tryz.prog os ⟨#[],#[],[]⟩).heap.modify 1 (oO GK.d64.toArray)).modify 0 (oO GK.p10.toArray)).modify 4 (oO GK.d32.toArray)}
theorem oP (os:Os)(args:Array Value):laidMet Tryz.prog gk ((mn os).forCall (fun _ _=>0) ⟨#[],args,[]⟩).memory:=
 laidMet_of_run' 8 (by kernel_rfl) (by kernel_rfl)
end
end Go.Proofs.YtlmbghgklnmlkaaGreatDoor
