import Derived.Test.YtfajmfoofmienaaGreatDoorValC
set_option maxHeartbeats 8000000
set_option linter.unusedVariables false
set_option linter.unusedSimpArgs false
namespace Go.Proofs.YtfajmfoofmienaaGreatDoor
open Go Go.GL
variable {b bt cap j k n0 u n n' sz i N l m nt id B D:Nat}{c cs args:List Value}{e ty ty':TypeId}{v x1 x2 x3 x4 z:Value}{a aq:Option Addr}{S:List (List UInt8)}{s:List UInt8}{q:Rat}{ik:IntKind}{x0 y:Operand}{h0 h h':HF}{E:Env}{W:List Nat}{fn:Func}{bf:Int}{assign body:Code}{X:CtxF}{ops:Array Oper}
section
variable {off:Nat}
structure At (h:HF)(b o:Nat)(c:List Value):Prop where
 ex:∃x cs,h b=some x∧x.cells=some cs∧o+c.length≤cs.length∧(cs.drop o).take c.length=c
theorem At.ext {h h':HF}{n o:Nat}(a:At h b o c)(x:Ext n h h')(hb:b<3*n):At h' b o c:=by
 obtain ⟨y,cs,h1,h2,h3,h4⟩:=a.ex;exact ⟨y,cs,(x b hb).trans h1,h2,h3,h4⟩
theorem At.ld {h:HF}{o:Nat}{c':List Value}{sz:Nat}(a:At h b o c)(k:Nat)(ha:GL.isAgg env ty=some true)(hi:env.inf ty=some (sz,bt,z))(hl:k+sz≤c.length)(hc:(c.drop k).take sz=c'):yp env ty h ⟨b,o+k,none⟩=some (.agg c'.toArray):=by
 obtain ⟨y,cs,h1,h2,h3,h4⟩:=a.ex;refine zB ⟨ha,hi⟩ h1 h2 zo ?_;rw [←hc,←h4,List.drop_take,List.take_take,List.drop_drop];congr 1;omega
theorem At.ld1 {h:HF}{o:Nat}(a:At h b o c)(k:Nat)(ha:GL.isAgg env ty=some false)(hc:c[k]?=some v):yp env ty h ⟨b,o+k,none⟩=some v:=by
 obtain ⟨y,cs,h1,h2,h3,h4⟩:=a.ex;exact zF ha h1 ⟨h2,(yX h4 hc)⟩
inductive Rec {D:Type} (sz:Nat) (P:List Value→D→Prop):List Value→List D→Prop
 |nil:Rec sz P [] []
 |cons {c cs:List Value} {d:D} {ds:List D} (hl:c.length=sz) (hp:P c d) (hr:Rec sz P cs ds):Rec sz P (c++cs) (d::ds)
section
variable {D:Type}{sz:Nat}{P P':List Value→D→Prop}
theorem Rec.len {ds:List D}(r:Rec sz P cs ds):cs.length=ds.length*sz:=by
 induction r with
 |nil=>simp
 |cons hl hp hr ih=>rw [List.length_append,ih,hl,List.length_cons,Nat.succ_mul];omega
theorem Rec.mono {ds:List D}(r:Rec sz P cs ds)(hP:∀c d,P c d→P' c d):Rec sz P' cs ds:=by
 induction r with
 |nil=>exact .nil
 |cons hl hp hr ih=>exact .cons hl (hP _ _ hp) ih
theorem Rec.snoc {ds:List D}{d:D}(r:Rec sz P cs ds)(hl:c.length=sz)(hp:P c d):Rec sz P (cs++c) (ds++[d]):=by
 induction r with
 |nil=>
  have:=Rec.cons hl hp (Rec.nil (P:=P) (sz:=sz));rw [List.append_nil] at this;exact this
 |cons hl2 hp2 hr ih=>rw [List.append_assoc];exact .cons hl2 hp2 ih
theorem Rec.get {ds:List D}{d:D}(r:Rec sz P cs ds):∀{j:Nat},ds[j]?=some d→∃c,c.length=sz∧P c d∧(cs.drop (j*sz)).take sz=c∧j*sz+sz≤cs.length:=by
 induction r with
 |nil=>intro j hj;simp at hj
 | @cons c cs d2 ds hl hp hr ih=>
  intro j hj;cases j with
  |zero=>
   simp at hj;subst hj;refine ⟨c,hl,hp,?_,by rw [List.length_append];omega⟩;rw [Nat.zero_mul,List.drop_zero,←hl,List.take_left]
  |succ j=>
   rw [List.getElem?_cons_succ] at hj;obtain ⟨c2,h1,h2,h3,h4⟩:=ih hj;refine ⟨c2,h1,h2,?_,by rw [List.length_append,Nat.succ_mul];omega⟩;rw [←h3,List.drop_append,List.drop_eq_nil_of_le (by rw [hl,Nat.succ_mul];omega),List.nil_append,Nat.succ_mul,hl,Nat.add_sub_cancel]
end
def RS {D:Type}(sz:Nat)(P:List Value→D→HF→Nat→Prop)(h:HF)(n:Nat)(v:Value)(l:List D):Prop:=∃cells,Sl h n sz v cells∧Rec sz (fun c d=>P c d h n) cells l
structure Stay {D:Type}(P:List Value→D→HF→Nat→Prop):Prop where
 go:∀c d h h' n n',P c d h n→Ext n h h'→n≤n'→P c d h' n'
section
variable {D:Type}{sz:Nat}{P:List Value→D→HF→Nat→Prop}{h h':HF}{n n':Nat}
theorem RS.ext' (hP:Stay P){l:List D}(r:RS sz P h n v l)(x:Ext n h h')(hn:n≤n'):RS sz P h' n' v l:=by
 obtain ⟨cells,h1,h2⟩:=r;exact ⟨cells,h1.ext x hn,h2.mono fun c d hp=>hP.go c d _ _ _ _ hp x hn⟩
theorem RS.len' (hsz:0<sz){len:Nat}{l:List D}(r:RS sz P h n (.slice a len cap) l):len=l.length:=by
 obtain ⟨cells,h1,h2⟩:=r;obtain ⟨a',l',c',e,hl⟩:=h1.len;injection e with e1 e2 e3
 subst e2;rw [h2.len] at hl;exact (Nat.eq_of_mul_eq_mul_right hsz hl).symm
theorem RS.at' (hsz:0<sz){len:Nat}{l:List D}{d:D}(r:RS sz P h n (.slice a len cap) l)(hj:l[j]?=some d):∃b off c,a=some ⟨b,off,none⟩∧b<3*n∧j<len∧At h b (off+j*sz) c∧c.length=sz∧P c d h n:=by
 have hlen:=r.len' hsz;obtain ⟨cells,h1,h2⟩:=r;have hjl:=(List.getElem?_eq_some_iff.1 hj).1;obtain ⟨b,off,x,cs,rfl,hb,hx,hc,hcap,hle,he⟩:=h1.inv zo;obtain ⟨c,e1,e2,e3,e4⟩:=h2.get hj;refine ⟨b,off,c,rfl,hb,zo,⟨x,cs,hx,hc,?_,?_⟩,e1,e2⟩
 ·have:=h2.len;rw [←hlen] at this;omega
 rw [e1,←e3,←he,List.drop_take,List.take_take,List.drop_drop];have:=h2.len;rw [←hlen] at this;congr 1;omega
end
theorem xp {h:HF}{n:Nat}{len:Nat}(r:Sl h n 1 (.slice a len cap) (strs S))(hj:S[j]?=some s):∃b off,a=some ⟨b,off,none⟩∧b<3*n∧j<len∧At h b (off+j*1) [.string ⟨⟨s⟩⟩]:=by
 have hjl:=(List.getElem?_eq_some_iff.1 hj).1;have hlen:=vi r;obtain ⟨b,off,x,cs,rfl,hb,hx,hc,hcap,hle,he⟩:=r.inv zo;refine ⟨b,off,rfl,hb,zo,⟨x,cs,hx,hc,by show off+j*1+1≤_;omega,?_⟩⟩;show (cs.drop (off+j*1)).take 1=_;have h1:(strs S)[j]?=some (.string ⟨⟨s⟩⟩):=by rw [strs,List.getElem?_map,hj];rfl
 have h2:=yX he h1;rw [Nat.mul_one];have h3:off+j<cs.length:=zo;rw [List.drop_eq_getElem_cons h3];rw [List.getElem?_eq_getElem h3] at h2;injection h2 with h2
 rw [h2];rfl
def ratP (c:List Value)(q:Rat)(h:HF)(n:Nat):Prop:=∃b a l k d e f g,c=[.bool b,.slice a l k,.bool d,.slice e f g]∧IW h n b a l k q.num∧IW h n d e f g (denZ q)
theorem ratP.stay:Stay ratP:=⟨fun _ _ _ _ _ _ ⟨b,a,l,k,d,e,f,g,e1,i,j⟩ x hn=>⟨b,a,l,k,d,e,f,g,e1,i.ext x hn,j.ext x hn⟩⟩
def numP (c:List Value)(q:Rat)(h:HF)(n:Nat):Prop:=∃b a l k d e f g,c=[.bool b,.slice a l k,.bool d,.slice e f g]∧UI h n b a l k q.num∧UI h n d e f g (denZ q)
theorem numP.stay:Stay numP:=⟨fun _ _ _ _ _ _ ⟨b,a,l,k,d,e,f,g,e1,i,j⟩ x hn=>⟨b,a,l,k,d,e,f,g,e1,i.ext x hn,j.ext x hn⟩⟩
def QS (h:HF)(n:Nat)(v:Value)(l:List Rat):Prop:=RS 4 ratP h n v l
def NS (h:HF)(n:Nat)(v:Value)(l:List Rat):Prop:=RS 4 numP h n v l
section
variable {h h':HF}{n n':Nat}
theorem QS.ext {l:List Rat}(r:QS h n v l)(x:Ext n h h')(hn:n≤n'):QS h' n' v l:=RS.ext' ratP.stay r x hn
theorem NS.ext {l:List Rat}(r:NS h n v l)(x:Ext n h h')(hn:n≤n'):NS h' n' v l:=RS.ext' numP.stay r x hn
theorem QS.len {len:Nat}{l:List Rat}(r:QS h n (.slice a len cap) l):len=l.length:=RS.len' zd r
theorem NS.len {len:Nat}{l:List Rat}(r:NS h n (.slice a len cap) l):len=l.length:=RS.len' zd r
theorem QS.at {len:Nat}{l:List Rat}(r:QS h n (.slice a len cap) l)(hj:l[j]?=some q):∃bb off b a2 l2 k d e f g,a=some ⟨bb,off,none⟩∧bb<3*n∧j<len∧At h bb (off+j*4) [.bool b,.slice a2 l2 k,.bool d,.slice e f g]∧IW h n b a2 l2 k q.num∧IW h n d e f g (denZ q):=by
 obtain ⟨bb,off,c,h1,h2,h3,h4,_,b,a2,l2,k,d,e,f,g,rfl,i,j⟩:=RS.at' zd r hj;exact ⟨bb,off,b,a2,l2,k,d,e,f,g,h1,h2,h3,h4,i,j⟩
theorem NS.at {len:Nat}{l:List Rat}(r:NS h n (.slice a len cap) l)(hj:l[j]?=some q):∃bb off b a2 l2 k d e f g,a=some ⟨bb,off,none⟩∧bb<3*n∧j<len∧At h bb (off+j*4) [.bool b,.slice a2 l2 k,.bool d,.slice e f g]∧UI h n b a2 l2 k q.num∧UI h n d e f g (denZ q):=by
 obtain ⟨bb,off,c,h1,h2,h3,h4,_,b,a2,l2,k,d,e,f,g,rfl,i,j⟩:=RS.at' zd r hj;exact ⟨bb,off,b,a2,l2,k,d,e,f,g,h1,h2,h3,h4,i,j⟩
end
section
variable {X:CtxF}{ops r:List Oper}{t:TF}{h:HF}{n:Nat}{w:List Nat}{Q:SV→Prop}{o:Oper}{d:Tmp}
theorem bp {x i:Operand}{len sz:Nat}(hw:zh ops t o=true∧o.dst=some d∧zm X.nt (some d)=true∧o.op=.indexAddr ty x i∧X.E.und ty=some (.slice e)∧X.E.inf e=some (sz,bt,z)∧evF t x=.slice aq len cap∧evF t i=.int ik (j:Int)∧aq=some ⟨b,off,none⟩)(hr:j<len)(k:EO X ops r ⟨upd t d (.pointer (some ⟨b,off+j*sz,none⟩)),h,n,w⟩ Q):EO X ops (o::r) ⟨t,h,n,w⟩ Q:=by
 obtain ⟨hw,hd,hn,ho,hu,hi,hx,hj,ha⟩:=hw;subst ha;exact yR ⟨hw,hd,hn,ho,hu,hi,hx,hj⟩ zo k
end
section
variable {X:CtxF}{ops r:List Oper}{ms:List Nat}{i m:Nat}{t:TF}{h:HF}{n:Nat}{w:List Nat}{al ld:List (Nat×Nat)}{ef:List (Nat×HF×List Nat)}{Q:SV→Prop}{o:Oper}{d:Tmp}
theorem zj1 {x:Operand}{len sz:Nat}(hw:zh ops t o=true)(hd:o.dst=some d)(hn:zm X.nt (some d)=true)(ho:o.op=.indexAddr ty x y)(hu:X.E.und ty=some (.slice e))(hi:X.E.inf e=some (sz,bt,z))
  (hx:evF t x=.slice aq len cap)(hj:evF t y=.int ik (j:Int))(ha:aq=some ⟨b,off,none⟩)(hr:j<len)(k:ED X ops r ms (i+1) ⟨⟨upd t d (.pointer (some ⟨b,off+j*sz,none⟩)),h,n,w⟩,al,ld,ef⟩ Q):ED X ops (o::r) (m::ms) i ⟨⟨t,h,n,w⟩,al,ld,ef⟩ Q:=by
 subst ha;refine yv hw hd hn (by rw [ho];rfl) ?_ k;have h1:(0:Int)≤(j:Int)∧(j:Int)<(len:Int):=zo;rw [ho];show yu X.E ty (evF t x) (evF t y)=_;rw [hx,hj];simp only [yu,hu,hi,if_pos h1,wm,Int.toNat_natCast]
end
theorem QS.x {h h':HF}{n n':Nat}{l:List Rat}(r:QS h n v l)(t:Tx n h n' h'):QS h' n' v l:=r.ext t.2 t.1
theorem At.x {h h':HF}{n n' o:Nat}(a:At h b o c)(t:Tx n h n' h')(hb:b<3*n):At h' b o c:=a.ext t.2 hb
theorem At.lG {h:HF}{o sz:Nat}{r:List Value}(L:List Value)(a:At h b o c)(ha:GL.isAgg env ty=some true)(hi:env.inf ty=some (sz,bt,z))(hc:c.drop k=L++r)(hl:L.length=sz)(h1:0<L.length:=by exact Nat.succ_pos _):yp env ty h ⟨b,o+k,none⟩=some (.agg L.toArray):=by
 have h2:=congrArg List.length hc;rw [List.length_drop,List.length_append] at h2;exact a.ld k ha hi zo (c':=L) (by rw [hc,←hl,List.take_left])
theorem At.l2 {h:HF}{o:Nat}{r:List Value}(a:At h b o c)(ha:GL.isAgg env ty=some true)(hi:env.inf ty=some (2,bt,z))(hc:c.drop k=x1::x2::r):yp env ty h ⟨b,o+k,none⟩=some (.agg #[x1,x2]):=a.lG [x1,x2] ha hi hc rfl
theorem At.l3 {h:HF}{o:Nat}{r:List Value}(a:At h b o c)(ha:GL.isAgg env ty=some true)(hi:env.inf ty=some (3,bt,z))(hc:c.drop k=x1::x2::x3::r):yp env ty h ⟨b,o+k,none⟩=some (.agg #[x1,x2,x3]):=a.lG [x1,x2,x3] ha hi hc rfl
theorem At.l4 {h:HF}{o:Nat}{r:List Value}(a:At h b o c)(ha:GL.isAgg env ty=some true)(hi:env.inf ty=some (4,bt,z))(hc:c.drop k=x1::x2::x3::x4::r):yp env ty h ⟨b,o+k,none⟩=some (.agg #[x1,x2,x3,x4]):=a.lG [x1,x2,x3,x4] ha hi hc rfl
section
variable {X:CtxF}{ops r:List Oper}{t:TF}{h:HF}{n:Nat}{w:List Nat}{Q:SV→Prop}{o:Oper}{d:Tmp}
theorem sI {i0:Operand}{len sz:Nat}(ha:aq=some ⟨b,off,none⟩)(hr:j<len)(k:EO X ops r ⟨upd t d (.pointer (some ⟨b,off+j*sz,none⟩)),h,n,w⟩ Q)(hw:zh ops t o=true:=by exact rfl)(hd:o.dst=some d:=by exact rfl)(hn:zm X.nt (some d)=true:=by exact rfl)(ho:o.op=.indexAddr ty x0 i0:=by exact rfl)(hu:X.E.und ty=some (.slice e):=by exact rfl)(hi:X.E.inf e=some (sz,bt,z):=by exact rfl)(hx:evF t x0=.slice aq len cap:=by exact rfl)(hj:evF t i0=.int ik (j:Int):=by exact rfl):EO X ops (o::r) ⟨t,h,n,w⟩ Q:=bp ⟨hw,hd,hn,ho,hu,hi,hx,hj,ha⟩ hr k
theorem sL {o0:Nat}(a:At h0 b o0 c)(hb:b<3*n0)(k0:Nat)(k:EO X ops r ⟨upd t d v,h,n,w⟩ Q)(hw:zh ops t o=true:=by exact rfl)(hd:o.dst=some d:=by exact rfl)(hn:zm X.nt (some d)=true:=by exact rfl)(ho:o.op=.load ty x0:=by exact rfl)(hx:evF t x0=.pointer (some ⟨b,o0+k0,none⟩):=by exact rfl)(tx:Tx n0 h0 n h:=by exact zx)(hv:At h b o0 c→yp X.E ty h ⟨b,o0+k0,none⟩=some v:=by intro a;first|exact a.ld1 _ rfl rfl|exact a.l1 rfl rfl rfl|exact a.l2 rfl rfl rfl|exact a.l3 rfl rfl rfl|exact a.l4 rfl rfl rfl|exact a.l5 rfl rfl rfl|exact a.l10 rfl rfl rfl|exact a.l11 rfl rfl rfl):EO X ops (o::r) ⟨t,h,n,w⟩ Q:=zI ⟨hw,hd,hn,ho,hx⟩ (hv (a.x tx hb)) k
end
section
variable {X:CtxF}{ops r:List Oper}{ms:List Nat}{i m:Nat}{t:TF}{h:HF}{n:Nat}{w:List Nat}{al ld:List (Nat×Nat)}{ef:List (Nat×HF×List Nat)}{Q:SV→Prop}{o:Oper}{d:Tmp}
theorem dI {i0:Operand}{len sz:Nat}(ha:aq=some ⟨b,off,none⟩)(hr:j<len)(k:ED X ops r ms (i+1) ⟨⟨upd t d (.pointer (some ⟨b,off+j*sz,none⟩)),h,n,w⟩,al,ld,ef⟩ Q)(hw:zh ops t o=true:=by exact rfl)(hd:o.dst=some d:=by exact rfl)(hn:zm X.nt (some d)=true:=by exact rfl)(ho:o.op=.indexAddr ty x0 i0:=by exact rfl)(hu:X.E.und ty=some (.slice e):=by exact rfl)(hi:X.E.inf e=some (sz,bt,z):=by exact rfl)(hx:evF t x0=.slice aq len cap:=by exact rfl)(hj:evF t i0=.int ik (j:Int):=by exact rfl):ED X ops (o::r) (m::ms) i ⟨⟨t,h,n,w⟩,al,ld,ef⟩ Q:=zj1 hw hd hn ho hu hi hx hj ha hr k
theorem dL {n3 o0:Nat}(a:At h0 b o0 c)(hb:b<3*n0)(k0:Nat)(k:ED X ops r ms (i+1) ⟨⟨upd t d v,h,n,w⟩,al,(i,b)::ld,ef⟩ Q)(hw:zh ops t o=true:=by exact rfl)(hd:o.dst=some d:=by exact rfl)(hn:zm X.nt (some d)=true:=by exact rfl)(ho:o.op=.load ty x0:=by exact rfl)(hx:evF t x0=.pointer (some ⟨b,o0+k0,none⟩):=by exact rfl){g:HF}(hr:wk m ef i h=(u,g):=by exact rfl)(tx:Tx n0 h0 n3 g:=by exact zx)(hv:At g b o0 c→yp X.E ty g ⟨b,o0+k0,none⟩=some v:=by intro a;first|exact a.ld1 _ rfl rfl|exact a.l1 rfl rfl rfl|exact a.l2 rfl rfl rfl|exact a.l3 rfl rfl rfl|exact a.l4 rfl rfl rfl|exact a.l5 rfl rfl rfl|exact a.l10 rfl rfl rfl|exact a.l11 rfl rfl rfl)(h1:wa u b ef=true:=by exact rfl)(h2:pe m b al=true:=by exact rfl):ED X ops (o::r) (m::ms) i ⟨⟨t,h,n,w⟩,al,ld,ef⟩ Q:=zL ⟨hw,hd,hn,ho,hx,hr⟩ (hv (a.x tx hb)) ⟨h1,h2⟩ k
end
end
section
variable {K n n1:Nat}{h:HF}{t:TF}{w:List Nat}{bv bu vc:Nat}{e:TypeId}{V U:List Nat}{j m hh:Nat}{sv qv:Value}
set_option maxRecDepth 100000
end
theorem zhk {a x:Value}(he:tG E ty a x h n=some (.val v h' n' W)):n'=n:=by
 unfold tG at he;split at he
 ·split at he
  ·split at he
   ·injection he with he;injection he with _ _ e _;exact e.symm
   cases he
  cases he
 cases he
theorem bW {a x:Value}{r:RF}(he:tG E ty a x h n=some r):∃v h' n' W,r=.val v h' n' W:=by
 unfold tG at he;split at he
 ·split at he
  ·split at he
   ·injection he with he;subst he;exact ⟨_,_,_,_,rfl⟩
   cases he
  cases he
 cases he
section
variable {x:Operand}
section
variable {X:CtxF}{ops r:List Oper}{t:TF}{h:HF}{n:Nat}{w:List Nat}{Q:SV→Prop}{o:Oper}{d:Tmp}
theorem tQ {a b:List UInt8}(c:Bool)(hw:zh ops t o=true∧o.dst=some d∧zm X.nt (some d)=true∧o.op=.binOp .eql ty x y ty'∧evF t x=.string ⟨⟨a⟩⟩∧evF t y=.string ⟨⟨b⟩⟩)(hr:(a==b)=c)
  (k:EO X ops r ⟨upd t d (.bool c),h,n,w⟩ Q):EO X ops (o::r) ⟨t,h,n,w⟩ Q:=by
 obtain ⟨hw,hd,hn,ho,hx,hy⟩:=hw;refine zA ⟨hw,hd,hn,(by rw [ho];rfl),?_⟩ k;rw [ho];show binE X.E .eql ty (evF t x) (evF t y)=_;rw [hx,hy,←hr];rfl
theorem zhl {a b:List UInt8}(c:Bool)(hw:zh ops t o=true)(hd:o.dst=some d)(hn:zm X.nt (some d)=true)(ho:o.op=.binOp .neq ty x y ty')(hx:evF t x=.string ⟨⟨a⟩⟩)(hy:evF t y=.string ⟨⟨b⟩⟩)(hr:(!(a==b))=c)
  (k:EO X ops r ⟨upd t d (.bool c),h,n,w⟩ Q):EO X ops (o::r) ⟨t,h,n,w⟩ Q:=by
 refine zA ⟨hw,hd,hn,(by rw [ho];rfl),?_⟩ k;rw [ho];show binE X.E .neq ty (evF t x) (evF t y)=_;rw [hx,hy,←hr];rfl
end
def VX (C:CalF)(f:FuncId)(args:List Value)(h:HF)(n:Nat)(P:Value→Prop):Prop:=CF C f args h n fun v h' n' w=>w=[]∧n≤n'∧Ext n h h'∧P v
theorem yE {P:Value→Prop}{e:Ex}{t:TF}{h:HF}{n:Nat}{a a2:Tmp}{e1:TypeId}(u:Value)(he:sc e=true∧fn.results.toList=[.cell a ty,.tmp a2]∧t a=.pointer (some ⟨b,0,none⟩)∧t a2=u∧GL.isAgg env ty=some true∧env.inf ty=some (sz,bt,z))(hb:h' b=some (.row cs e1))(hl:cs.length=sz)(hn:n≤n')(hx:Ext n h h')(hp:P (.tuple #[.agg cs.toArray,u])):RetH fn (fun v h' n' w=>w=[]∧n≤n'∧Ext n h h'∧P v) e ⟨t,h',n',[]⟩:=by
 obtain ⟨he,hr,ha,ha2,hg,hi⟩:=he;refine retH [.agg cs.toArray,u] ⟨he,?_,rfl⟩ ⟨rfl,hn,hx,hp⟩;rw [hr];have l1:=zB ⟨hg,hi⟩ hb rfl (show 0+sz≤cs.length by omega) (show (cs.drop 0).take sz=cs by rw [List.drop_zero,List.take_of_length_le zo]);simp only [resF,ha,ha2,l1]
theorem za5 (k:Nat)(h:HF)(n:Nat)(s:List UInt8):VF (cal (k+1)) 208 [.string ⟨⟨s⟩⟩,.string ⟨⟨[45]⟩⟩] h n fun v=>v=.bool (zC s):=by
 refine zw (fn:=Tryz.f208) R4 ?_;refine zN ?_;refine sh ?_;cases s with
 |nil=>
  refine zM ?_;refine st_I (ik:=.i64) (a:=0) R5 ?_;refine zM ?_;refine st_I (ik:=.i64) (a:=1) R5 ?_;refine sh ?_;exact retF _ rfl (zi rfl) R2 rfl
 |cons x s=>
  refine zM ?_;refine st_I (ik:=.i64) (a:=((x::s).length:Int)) R5 ?_;refine zM ?_;refine st_I (ik:=.i64) (a:=1) R5 ?_;refine nT R6 (by rw [List.length_cons];omega) ?_;refine Zc ?_;refine zM ?_;refine st_I (ik:=.i64) (a:=1) R5 ?_;refine u4 (s:=x::s) (j:=1) R8 (by simp) ?_;refine zM ?_;refine tQ (a:=[x]) (b:=[45]) (x==45) R6 (by simp) ?_;refine sh ?_;exact retF _ rfl (zi rfl) R2 (by show Value.bool _=Value.bool _;simp [zC])
theorem zan (h:zC s=true):1≤s.length:=by
 unfold zC at h;cases s with
 |nil=>simp at h
 |cons=>simp
theorem cu (k:Nat)(h:HF)(n:Nat)(s:List UInt8):VF (cal (k+2)) 177 [.string ⟨⟨s⟩⟩,.string ⟨⟨[45]⟩⟩] h n fun v=>v=.tuple #[.string ⟨⟨yx s⟩⟩,.bool (zC s)]:=by
 refine zw (fn:=Tryz.f177) R4 ?_;refine zN ?_;refine sh ?_;refine Zc ?_;refine z8 _ R5 (za5 k h n s) ?_;rintro _ rfl;by_cases hm:zC s=true
 ·rw [hm];refine sh ?_;refine Za ?_;refine Zc ?_;refine st_I (ik:=.i64) (a:=1) R5 ?_;refine wR (s:=s) (j:=1) R8 (zan hm) ?_;refine sh ?_;refine retF [.string ⟨⟨s.drop 1⟩⟩,.bool true] rfl rfl R2 ?_;unfold yx;rw [if_pos hm];rfl
 rw [Bool.eq_false_iff.2 hm];refine sh ?_;refine Zb ?_;refine sh ?_;refine retF [.string ⟨⟨s⟩⟩,.bool false] rfl rfl R2 ?_;unfold yx;rw [if_neg hm];rfl
theorem zch (k:Nat)(h:HF)(n:Nat)(s:List UInt8):VF (cal (k+3)) 147 [.string ⟨⟨s⟩⟩,.string ⟨⟨[45]⟩⟩] h n fun v=>v=.tuple #[.string ⟨⟨yx s⟩⟩,.bool (zC s)]:=by
 refine zw (fn:=Tryz.f147) R4 ?_;refine zN ?_;refine sh ?_;refine Zc ?_;refine z8 _ R5 (cu k h n s) ?_;rintro _ rfl;refine sh ?_;exact retF [.string ⟨⟨yx s⟩⟩,.bool (zC s)] rfl rfl R2 rfl
theorem zcg (s:List UInt8):∃T D,s.takeWhile dig=T∧s.dropWhile dig=D∧s=T++D∧(∀b∈T,dig b=true)∧(D=[]∨∃x D',D=x::D'∧dig x=false):=by
 refine ⟨_,_,rfl,rfl,List.takeWhile_append_dropWhile.symm,vZ,?_⟩;cases hd:s.dropWhile dig with
 |nil=>exact .inl rfl
 |cons x D'=>exact .inr ⟨x,D',rfl,by
   have:=List.head?_dropWhile_not dig s;rw [hd] at this;simpa using this⟩
theorem qV (k:Nat)(h:HF)(n:Nat)(s:List UInt8)(hs:s.length<1000000):VF (cal (k+1)) 148 [.string ⟨⟨s⟩⟩] h n fun v=>v=.tuple #[.string ⟨⟨s.takeWhile dig⟩⟩,.string ⟨⟨s.dropWhile dig⟩⟩]:=by
 refine zw (fn:=Tryz.f148) R4 ?_;obtain ⟨T,D,hT,hD,hTD,hall,hnd⟩:=zcg s;rw [hT,hD];clear hT hD;have hlen:s.length=T.length+D.length:=by rw [hTD,List.length_append]
 refine zN ?_;refine sh ?_;refine sh ?_;refine zQ (α:=Nat) (fun m=>[(0,.string ⟨⟨s⟩⟩),(4,.int .i64 (m:Int))]) (fun m h' n' w=>h=h'∧n=n'∧w=[]∧m≤T.length) (fun m=>T.length-m) 0 ⟨rfl,rfl,trivial⟩ ⟨rfl,rfl,rfl,Nat.zero_le _⟩ (by show T.length-0<LL;unfold LL;omega) ?_;rintro m t _ _ _ ⟨rfl,rfl,rfl,hm⟩;refine zN ?_;refine Zc ?_;refine st_I (ik:=.i64) (a:=(s.length:Int)) R5 ?_;have fin:∀t':TF,t' 0=.string ⟨⟨s⟩⟩→m=T.length→True:=fun _ _ _=>trivial;by_cases hmT:m=T.length
 ·have htake:s.take m=T:=by rw [hTD,hmT,List.take_left' rfl]
  have hdrop:s.drop m=D:=by rw [hTD,hmT,List.drop_left' rfl]
  rcases hnd with rfl|⟨x,D',rfl,hx⟩
  ·rw [List.length_nil] at hlen;refine sh ?_;refine Za ?_;rw [xF rfl];refine Zc ?_;refine u4 (s:=s) (j:=m) R8 zo ?_;refine Zc ?_;refine wR (s:=s) (j:=m) R8 zo ?_;rw [htake,hdrop];refine sh ?_;exact retF [.string ⟨⟨T⟩⟩,.string ⟨⟨[]⟩⟩] rfl rfl R2 rfl
  rw [List.length_cons] at hlen;have hb:s[m]?=some x:=by rw [hTD,hmT,List.getElem?_append_right (Nat.le_refl _),Nat.sub_self];rfl
  have hx':¬(48≤x.toNat∧x.toNat≤57):=fun h=>by rw [oN.2 h] at hx;cases hx
  refine qG R6 zo ?_;refine Zc ?_;refine zM ?_;refine yf (j:=m) R8 hb ?_;by_cases hx1:48≤x.toNat
  ·refine qH R6 zo ?_;repeat refine zR ?_
   refine yf (j:=m) R8 hb ?_;refine sh ?_;refine Za ?_;rw [xF rfl];refine Zc ?_;refine u4 (s:=s) (j:=m) R8 zo ?_;refine Zc ?_;refine wR (s:=s) (j:=m) R8 zo ?_;rw [htake,hdrop];refine sh ?_;exact retF [.string ⟨⟨T⟩⟩,.string ⟨⟨x::D'⟩⟩] rfl rfl R2 rfl
  refine pI R6 zo ?_;refine sh ?_;refine Za ?_;rw [xF rfl];refine Zc ?_;refine u4 (s:=s) (j:=m) R8 zo ?_;refine Zc ?_;refine wR (s:=s) (j:=m) R8 zo ?_;rw [htake,hdrop];refine sh ?_;exact retF [.string ⟨⟨T⟩⟩,.string ⟨⟨x::D'⟩⟩] rfl rfl R2 rfl
 obtain ⟨x,hx⟩:∃x,T[m]?=some x:=⟨T[m]'zo,List.getElem?_eq_getElem zo⟩;have hb:s[m]?=some x:=by rw [hTD,List.getElem?_append_left zo];exact hx
 have hx1:=oN.1 (hall x (List.mem_of_getElem? hx));refine qG R6 zo ?_;refine Zc ?_;refine zM ?_;refine yf (j:=m) R8 hb ?_;refine qH R6 zo ?_;repeat refine zR ?_
 refine yf (j:=m) R8 hb ?_;refine sh ?_;refine Zb ?_;refine sh ?_;exact goOn (m+1) (by show T.length-(m+1)<T.length-m;omega) ⟨rfl,rfl,trivial⟩ ⟨rfl,rfl,rfl,by show m+1≤_;omega⟩
def spP (mi:Bool)(m r:List UInt8):List UInt8×List UInt8×Bool:=
 if m=[48] then (m,[],!mi&&r.isEmpty)
 else if m=[]∨m.head?=some 48 then (m,[],false)
 else if r=[] then (m,[],true)
 else if r.head?≠some 47 then (m,[],false)
 else (m,(r.drop 1).takeWhile dig,((r.drop 1).dropWhile dig).isEmpty&& !((r.drop 1).takeWhile dig).isEmpty&&((r.drop 1).takeWhile dig).head? != some 48&&(r.drop 1).takeWhile dig != [49])
theorem zhq (s:List UInt8):spl s=spP (zC s) ((yx s).takeWhile dig) ((yx s).dropWhile dig):=rfl
theorem iZ {x:UInt8}{l:List UInt8}{c:UInt8}(h:x.toNat≠c.toNat):(x::l).head?≠some c:=fun e=>h (by
 have:x=c:=by simpa using e
 rw [this])
theorem fe (k:Nat)(h:HF)(n:Nat)(s:List UInt8)(hs:s.length<1000000):VX (cal (k+4)) 115 [.string ⟨⟨s⟩⟩] h n fun v=>v=.tuple #[.agg #[.bool (zC s),.string ⟨⟨(spl s).1⟩⟩,.string ⟨⟨(spl s).2.1⟩⟩],.bool (spl s).2.2]:=by
 refine zk (fn:=Tryz.f115) R4 ?_;rw [zhq];have hbl:=mB s;refine zN ?_;refine zT R5 ?_;refine sh ?_;refine zT R5 ?_;refine zN ?_;generalize hh:upd (upd h (3*n+2) _) (3*(n+1)+2) _=h1;have hr2:∃e,h1 (3*n+2)=some (.row [.bool false,.string ⟨⟨[]⟩⟩,.string ⟨⟨[]⟩⟩] e):=⟨_,by rw [←hh,zj zo,ze];rfl⟩;have hr4:∃e,h1 (3*(n+1)+2)=some (.row [.bool false,.string ⟨⟨[]⟩⟩,.string ⟨⟨[]⟩⟩] e):=⟨_,by rw [←hh,ze];rfl⟩;obtain ⟨e2,hr2⟩:=hr2;obtain ⟨e4,hr4⟩:=hr4;have hx:Ext n h h1:=fun b hb=>by rw [←hh,zj zo,zj zo]
 clear hh;refine zM ?_;refine z8 _ R5 (zch k h1 (n+1+1) s) ?_;rintro _ rfl;generalize yx s=B at hbl ⊢;generalize zC s=mi;refine sh ?_;repeat refine zR ?_
 refine yB (cs:=[.bool mi]) R8 hr4 zb (by show 3*n≤3*(n+1)+2;omega) ?_;refine zN ?_;generalize hh:upd h1 (3*(n+1)+2) _=h2;replace hr2:h2 (3*n+2)=some (.row [.bool false,.string ⟨⟨[]⟩⟩,.string ⟨⟨[]⟩⟩] e2):=by rw [←hh,zj zo];exact hr2
 replace hr4:h2 (3*(n+1)+2)=some (.row [.bool mi,.string ⟨⟨[]⟩⟩,.string ⟨⟨[]⟩⟩] e4):=by rw [←hh,ze];rfl
 replace hx:Ext n h h2:=fun b hb=>by rw [←hh,zj zo,hx b hb]
 clear hh;refine zM ?_;refine z8 _ R5 (qV (k+2) h2 (n+1+1) B zo) ?_;rintro _ rfl;have hRl:(B.dropWhile dig).length≤B.length:=(List.dropWhile_sublist dig).length_le;generalize B.takeWhile dig=M;generalize B.dropWhile dig=R at hRl ⊢;repeat refine zR ?_
 refine yB (cs:=[.string ⟨⟨M⟩⟩]) R8 hr4 zb (by show 3*n≤3*(n+1)+2;omega) ?_;generalize hh:upd h2 (3*(n+1)+2) _=h3;replace hr2:h3 (3*n+2)=some (.row [.bool false,.string ⟨⟨[]⟩⟩,.string ⟨⟨[]⟩⟩] e2):=by rw [←hh,zj zo];exact hr2
 replace hr4:h3 (3*(n+1)+2)=some (.row [.bool mi,.string ⟨⟨M⟩⟩,.string ⟨⟨[]⟩⟩] e4):=by rw [←hh,ze];rfl
 replace hx:Ext n h h3:=fun b hb=>by rw [←hh,zj zo,hx b hb]
 clear hh;refine sh ?_;repeat refine zR ?_
 refine zg R6 hr4 (v:=.string ⟨⟨M⟩⟩) R2 ?_;have ldT:yp env 171 h3 ⟨3*(n+1)+2,0,none⟩=some (.agg #[.bool mi,.string ⟨⟨M⟩⟩,.string ⟨⟨[]⟩⟩]):=zB R2 hr4 rfl zb rfl;by_cases h48:M=[48]
 ·refine tQ true R6 (by rw [h48];rfl) ?_;refine sh ?_;refine Zb ?_;refine zI (v:=.agg #[.bool mi,.string ⟨⟨M⟩⟩,.string ⟨⟨[]⟩⟩]) R5 ldT ?_;cases mi with
  |true=>
   repeat refine zR ?_
   refine zv [.bool true,.string ⟨⟨M⟩⟩,.string ⟨⟨[]⟩⟩] R7 rfl hr2 rfl (by show 3*n≤3*n+2;omega) ?_;refine sh ?_;refine yE (.bool false) R6 (ze _ _ _) rfl zo (fun b hb=>(zj zo).trans (hx b hb)) ?_;rw [show spP true M R=(M,[],false) from by unfold spP;rw [if_pos h48];rfl]
  |false=>
   cases R with
   |nil=>
    repeat refine zR ?_
    refine zv [.bool false,.string ⟨⟨M⟩⟩,.string ⟨⟨[]⟩⟩] R7 rfl hr2 rfl (by show 3*n≤3*n+2;omega) ?_;refine sh ?_;refine yE (.bool true) R6 (ze _ _ _) rfl zo (fun b hb=>(zj zo).trans (hx b hb)) ?_;rw [show spP false M []=(M,[],true) from by unfold spP;rw [if_pos h48];rfl]
   |cons z R=>
    repeat refine zR ?_
    refine zv [.bool false,.string ⟨⟨M⟩⟩,.string ⟨⟨[]⟩⟩] R7 rfl hr2 rfl (by show 3*n≤3*n+2;omega) ?_;refine sh ?_;refine yE (.bool false) R6 (ze _ _ _) rfl zo (fun b hb=>(zj zo).trans (hx b hb)) ?_;rw [show spP false M (z::R)=(M,[],false) from by unfold spP;rw [if_pos h48];rfl]
 refine tQ false R6 (by simpa using h48) ?_;refine sh ?_;refine Za ?_;repeat refine zR ?_
 refine zg R6 hr4 (v:=.string ⟨⟨M⟩⟩) R2 ?_;have bad:∀t':TF,spP mi M R=(M,[],false)→True:=fun _ _=>trivial;cases M with
 |nil=>
  refine sh ?_;refine Zb ?_;refine zI (v:=.agg #[.bool mi,.string ⟨⟨[]⟩⟩,.string ⟨⟨[]⟩⟩]) R5 ldT ?_;refine zv [.bool mi,.string ⟨⟨[]⟩⟩,.string ⟨⟨[]⟩⟩] R7 rfl hr2 rfl (by show 3*n≤3*n+2;omega) ?_;refine sh ?_;refine yE (.bool false) R6 (ze _ _ _) rfl zo (fun b hb=>(zj zo).trans (hx b hb)) ?_;rw [show spP mi [] R=([],[],false) from by unfold spP;rw [if_neg h48,if_pos (.inl rfl)]]
 |cons y M=>
 repeat refine zR ?_
 refine zg R6 hr4 (v:=.string ⟨⟨y::M⟩⟩) R2 ?_;refine yf (s:=y::M) (j:=0) R8 rfl ?_;by_cases hy:y.toNat=48
 ·have hy':y=48:=UInt8.toNat_inj.1 hy;refine sh ?_;refine Zb ?_;refine zI (v:=.agg #[.bool mi,.string ⟨⟨y::M⟩⟩,.string ⟨⟨[]⟩⟩]) R5 ldT ?_;refine zv [.bool mi,.string ⟨⟨y::M⟩⟩,.string ⟨⟨[]⟩⟩] R7 rfl hr2 rfl (by show 3*n≤3*n+2;omega) ?_;refine sh ?_;refine yE (.bool false) R6 (ze _ _ _) rfl zo (fun b hb=>(zj zo).trans (hx b hb)) ?_;rw [show spP mi (y::M) R=(y::M,[],false) from by unfold spP;rw [if_neg h48,if_pos (.inr (by rw [hy'];rfl))]]
 have hy2:¬(y::M=[]∨(y::M).head?=some 48):=by
  rintro (h|h)
  ·cases h
  exact iZ (c:=48) hy h
 refine sh ?_;refine Za ?_;cases R with
 |nil=>
  refine sh ?_;refine Zb ?_;refine zI (v:=.agg #[.bool mi,.string ⟨⟨y::M⟩⟩,.string ⟨⟨[]⟩⟩]) R5 ldT ?_;refine zv [.bool mi,.string ⟨⟨y::M⟩⟩,.string ⟨⟨[]⟩⟩] R7 rfl hr2 rfl (by show 3*n≤3*n+2;omega) ?_;refine sh ?_;refine yE (.bool true) R6 (ze _ _ _) rfl zo (fun b hb=>(zj zo).trans (hx b hb)) ?_;rw [show spP mi (y::M) []=(y::M,[],true) from by unfold spP;rw [if_neg h48,if_neg hy2,if_pos rfl]]
 |cons z R=>
 refine sh ?_;refine Za ?_;refine zM ?_;refine yf (s:=z::R) (j:=0) R8 rfl ?_;by_cases hz:z.toNat=47;case neg=>
  refine sh ?_;refine Zb ?_;refine zI (v:=.agg #[.bool mi,.string ⟨⟨y::M⟩⟩,.string ⟨⟨[]⟩⟩]) R5 ldT ?_;refine zv [.bool mi,.string ⟨⟨y::M⟩⟩,.string ⟨⟨[]⟩⟩] R7 rfl hr2 rfl (by show 3*n≤3*n+2;omega) ?_;refine sh ?_;refine yE (.bool false) R6 (ze _ _ _) rfl zo (fun b hb=>(zj zo).trans (hx b hb)) ?_;rw [show spP mi (y::M) (z::R)=(y::M,[],false) from by unfold spP;rw [if_neg h48,if_neg hy2,if_neg (by simp),if_pos (iZ (c:=47) hz)]]
 have hsp:spP mi (y::M) (z::R)=(y::M,R.takeWhile dig,(R.dropWhile dig).isEmpty&& !(R.takeWhile dig).isEmpty&&(R.takeWhile dig).head? != some 48&&R.takeWhile dig != [49]):=by
  have hz':z=47:=UInt8.toNat_inj.1 hz;unfold spP;rw [if_neg h48,if_neg hy2,if_neg (by simp),if_neg (by rw [hz'];simp)];rfl
 rw [hsp];rw [List.length_cons] at hRl;refine sh ?_;refine Za ?_;refine zM ?_;refine wR (s:=z::R) (j:=1) R8 (by simp) ?_;rw [show (z::R).drop 1=R from rfl];refine z8 _ R5 (qV (k+2) h3 (n+1+1) R zo) ?_;rintro _ rfl;generalize R.takeWhile dig=D;generalize R.dropWhile dig=E;repeat refine zR ?_
 refine yB (cs:=[.string ⟨⟨D⟩⟩]) R8 hr4 zb (by show 3*n≤3*(n+1)+2;omega) ?_;generalize hh:upd h3 (3*(n+1)+2) _=h4;replace hr2:h4 (3*n+2)=some (.row [.bool false,.string ⟨⟨[]⟩⟩,.string ⟨⟨[]⟩⟩] e2):=by rw [←hh,zj zo];exact hr2
 replace hr4:h4 (3*(n+1)+2)=some (.row [.bool mi,.string ⟨⟨y::M⟩⟩,.string ⟨⟨D⟩⟩] e4):=by rw [←hh,ze];rfl
 replace hx:Ext n h h4:=fun b hb=>by rw [←hh,zj zo,hx b hb]
 clear hh ldT;refine sh ?_;refine zl [0,0,2,6,14,30,62,126,254,510,1022,2046,4094,8190,16382,32766,65534,131070,262142,32767,1048575] rfl ?_;refine zL (v:=.agg #[.bool mi,.string ⟨⟨y::M⟩⟩,.string ⟨⟨D⟩⟩]) R6 (zB R2 hr4 rfl zb rfl) R2 ?_;cases E with
 |cons x E=>
  repeat (first|refine zL R6 (zF rfl hr4 R2) R2 ?_|refine zD ?_)
  refine yT (cs:=[.bool mi,.string ⟨⟨y::M⟩⟩,.string ⟨⟨D⟩⟩]) R7 rfl hr2 zb (by show 3*n≤3*n+2;omega) R3 ?_;repeat refine zD ?_
  refine zN ?_;exact yE (.bool false) (cs:=[.bool mi,.string ⟨⟨y::M⟩⟩,.string ⟨⟨D⟩⟩]) R6 (ze _ _ _) rfl zo (fun b hb=>(zj zo).trans (hx b hb)) rfl
 |nil=>
 cases D with
 |nil=>
  repeat (first|refine zL R6 (zF rfl hr4 R2) R2 ?_|refine zD ?_)
  refine yT (cs:=[.bool mi,.string ⟨⟨y::M⟩⟩,.string ⟨⟨[]⟩⟩]) R7 rfl hr2 zb (by show 3*n≤3*n+2;omega) R3 ?_;repeat refine zD ?_
  refine zN ?_;exact yE (.bool false) (cs:=[.bool mi,.string ⟨⟨y::M⟩⟩,.string ⟨⟨[]⟩⟩]) R6 (ze _ _ _) rfl zo (fun b hb=>(zj zo).trans (hx b hb)) rfl
 |cons u D=>
 by_cases hu:u.toNat=48
 ·have hu':u=48:=UInt8.toNat_inj.1 hu;repeat (first|refine zL R6 (zF rfl hr4 R2) R2 ?_|refine zD ?_)
  refine yT (cs:=[.bool mi,.string ⟨⟨y::M⟩⟩,.string ⟨⟨u::D⟩⟩]) R7 rfl hr2 zb (by show 3*n≤3*n+2;omega) R3 ?_;repeat refine zD ?_
  refine zN ?_;refine yE (.bool false) (cs:=[.bool mi,.string ⟨⟨y::M⟩⟩,.string ⟨⟨u::D⟩⟩]) R6 (ze _ _ _) rfl zo (fun b hb=>(zj zo).trans (hx b hb)) ?_;rw [hu'];rfl
 have hu':((u::D).head? != some 48)=true:=by
  have:=iZ (l:=D) (c:=48) hu;simpa using this
 repeat (first|refine zL R6 (zF rfl hr4 R2) R2 ?_|refine zD ?_)
 refine yT (cs:=[.bool mi,.string ⟨⟨y::M⟩⟩,.string ⟨⟨u::D⟩⟩]) R7 rfl hr2 zb (by show 3*n≤3*n+2;omega) ⟨rfl,rfl,(iI (by intro x hx;simp at hx;rcases hx with rfl|rfl|rfl|rfl<;>show 3*(n+1)+2≠3*n+2<;>omega))⟩ ?_;repeat refine zD ?_
 refine zN ?_;refine yE (.bool (u::D != [49])) (cs:=[.bool mi,.string ⟨⟨y::M⟩⟩,.string ⟨⟨u::D⟩⟩]) R6 (ze _ _ _) rfl zo (fun b hb=>(zj zo).trans (hx b hb)) ?_;rw [hu'];rfl
end
def dotR:List Rat→List Rat→Rat
 |x::xs,y::ys=>x*y+dotR xs ys
 |_,_=>0
theorem xf {α:Type}{l:List α}{j:Nat}{d:α}(h:l[j]?=some d):l.take (j+1)=l.take j++[d]:=by
 rw [List.take_add_one,h];rfl
theorem zkd (k:Nat)(h:HF)(n:Nat)(s:List UInt8)(hs:s.length<1000000):CX (cal (k+4)) 115 [.string ⟨⟨s⟩⟩] h n fun v _ _=>∃neg m d ok,v=.tuple #[.agg #[.bool neg,.string ⟨⟨m⟩⟩,.string ⟨⟨d⟩⟩],.bool ok]∧neg=zC s∧spl s=(m,d,ok):=by
 refine yh (fe k h n s hs) ?_;rintro v h' n' w ⟨h1,h2,h3,rfl⟩;exact ⟨h1,h2,h3,_,_,_,_,rfl,rfl,rfl⟩
theorem zab (k:Nat)(h:HF)(n:Nat)(hs:AllD s)(hl:s.length≤19):CX (cal (k+6)) 116 [.string ⟨⟨s⟩⟩] h n (IV ((dval s:Nat):Int)):=by
 refine yh (zac k h n hs hl) ?_;rintro v h' n' w ⟨a,l,c,L,rfl,⟨h1,h2,h3,h4,h5⟩,h6⟩;refine ⟨h1,h2,h3,_,_,_,_,rfl,?_,L,h4,h5,?_⟩
 ·rw [decide_eq_false];omega
 rw [h6];omega
theorem Frm.len {m d:List UInt8}(h:Frm s m d):m.length≤s.length∧d.length≤s.length:=by
 have:=congrArg List.length h.eq;simp only [List.length_append] at this;refine ⟨zo,?_⟩;by_cases hd:d=[]
 ·subst hd;exact Nat.zero_le _
 rw [if_neg hd,List.length_cons] at this;omega
theorem kc {m:List UInt8}(h:AllD m)(hl:m.length≤19):((dval m:Nat):Int).natAbs<BW:=by
 rw [Int.natAbs_natCast];refine Nat.lt_of_lt_of_le (wK h) (Nat.le_trans (Nat.pow_le_pow_right zd hl) ?_);unfold BW;decide+kernel
theorem ah {m d:List UInt8}(h:spl s=(m,d,false)):¬xz s:=by
 rw [ry,h];rintro ⟨h1,_⟩;cases h1
theorem vG {m d:List UInt8}(h:spl s=(m,d,true))(hd:d=[]):xz s∧(z0 s).num=(if zC s then -(dval m:Int) else dval m)∧denZ (z0 s)=0:=by
 obtain ⟨q,h1,h2,h3⟩:=(rR h).rat (.inl hd);rw [rp h1];rw [if_pos hd] at h3;exact ⟨⟨q,h1⟩,h2,yw.2 h3⟩
theorem th {m d:List UInt8}(h:spl s=(m,d,true))(hd:¬d=[])(hg:Nat.gcd (dval m) (dval d)=1):xz s∧(z0 s).num=(if zC s then -(dval m:Int) else dval m)∧denZ (z0 s)=((dval d:Nat):Int):=by
 have hf:=rR h;obtain ⟨q,h1,h2,h3⟩:=hf.rat (.inr hg);rw [rp h1];rw [if_neg hd] at h3;refine ⟨⟨q,h1⟩,h2,?_⟩;rw [←h3];refine vm (mt yw.1 fun e=>?_);rcases hf.den with h4|⟨h4,h5⟩
 ·exact hd h4
 have:=qq hf.dd hd h4;rw [←h3,e,eg] at this;exact h5 this.symm
theorem qe {m d:List UInt8}(h:spl s=(m,d,true))(hd:¬d=[])(hg:¬Nat.gcd (dval m) (dval d)=1):¬xz s:=by
 rw [ry,h];rintro ⟨_,h1|h1⟩
 ·exact hd h1
 exact hg h1
section
variable {s:List UInt8}{h:HF}{n:Nat}
def TL (s:List UInt8):Prop:=s.length<1000000∧∀m d,spl s=(m,d,true)→m.length≤19∧d.length≤19
theorem TL.of (h:s.length<20):TL s:=⟨zo,fun m d e=>by have:=(rR e).len;omega⟩
theorem zmg (k:Nat)(g:GG h n)(hs:TL s):CX (cal (k+9)) 125 [.string ⟨⟨s⟩⟩] h n fun v h' n'=>∃b a l c d e f g ok,v=.tuple #[.agg #[.bool b,.slice a l c,.bool d,.slice e f g],.bool ok]∧IW h' n' b a l c (z0 s).num∧IW h' n' d e f g (denZ (z0 s))∧(ok=true↔xz s):=by
 refine zk (fn:=Tryz.f125) R4 ?_;refine zG ?_;refine sA ?_;intro h11 p11 x11;refine zG ?_;refine sC (zkd _ _ _ s hs.1) ?_;rintro _ h12 n12 ⟨neg12,m12,d12,ok12,rfl,z12,w12⟩ y12 x12;cases ok12
 ·refine zG ?_;refine sA ?_;intro h13 p13 x13;refine sS [.bool neg12,.string ⟨⟨m12⟩⟩,.string ⟨⟨d12⟩⟩] ?_;intro h14 p14 o14;refine zG ?_;refine sT #[.bool false,.slice none 0 0,.bool false,.slice none 0 0] ?_;refine sS [.bool false,.slice none 0 0,.bool false,.slice none 0 0] ?_;intro h15 p15 o15;refine zq ?_;exact ⟨_,_,_,_,_,_,_,_,_,rfl,(IW.zero _ _).as (by rw [ul (ah w12)];rfl),(IW.zero _ _).as (by rw [ul (ah w12)];rfl),⟨fun hq=>(by cases hq),fun hq=>absurd hq (ah w12)⟩⟩
 have f12:=rR w12;have fl12:=hs.2 _ _ w12;refine zG ?_;refine sA ?_;intro h16 p16 x16;refine sS [.bool neg12,.string ⟨⟨m12⟩⟩,.string ⟨⟨d12⟩⟩] ?_;intro h17 p17 o17;refine zG ?_;refine sC (zab _ _ _ f12.dm zo) ?_;rintro _ h18 n18 ⟨b18,a18,l18,c18,rfl,i18⟩ y18 x18;refine sT #[.bool b18,.slice a18 l18 c18,.bool false,.slice none 0 0] ?_;refine sA ?_;intro h19 p19 x19;refine sS [.bool b18,.slice a18 l18 c18,.bool false,.slice none 0 0] ?_;intro h20 p20 o20;refine zG ?_;cases neg12
 ·refine zG ?_;by_cases q21:d12=[]
  ·refine tQ true R6 (by simp [q21]) ?_;refine zG ?_;refine sS [.bool b18,.slice a18 l18 c18,.bool false,.slice none 0 0] ?_;intro h22 p22 o22;refine zq ?_;exact ⟨_,_,_,_,_,_,_,_,_,rfl,(i18.t zt).as (by rw [(vG w12 q21).2.1,←z12];rfl),(IW.zero _ _).as (vG w12 q21).2.2.symm,⟨fun _=>(vG w12 q21).1,fun _=>rfl⟩⟩
  refine tQ false R6 (by simp [q21]) ?_;refine zG ?_;refine sC (zab _ _ _ f12.dd zo) ?_;rintro _ h23 n23 ⟨b23,a23,l23,c23,rfl,i23⟩ y23 x23;refine zG ?_;refine sS (b:=3*n18+2) (off:=2) [.bool b18,.slice a18 l18 c18,.bool b23,.slice a23 l23 c23] ?_;intro h24 p24 o24;refine zG ?_;refine sC (gcdX _ (g.x zx) (i18.t zt) (i23.t zt) (kc f12.dm zo) (kc f12.dd zo)) ?_;rintro _ h25 n25 ⟨b25,a25,l25,c25,rfl,i25⟩ y25 x25;refine sC (rx _ i25) ?_;rintro _ h26 n26 ⟨b26,rfl,bq26⟩ y26 x26;rcases bvs bq26 with ⟨rfl,q26⟩|⟨rfl,q26⟩
  ·refine zG ?_;refine sT #[.bool false,.slice none 0 0,.bool false,.slice none 0 0] ?_;refine sS [.bool false,.slice none 0 0,.bool false,.slice none 0 0] ?_;intro h27 p27 o27;refine zq ?_;exact ⟨_,_,_,_,_,_,_,_,_,rfl,(IW.zero _ _).as (by rw [ul (qe w12 q21 (by have:=q26;simp only [Int.natAbs_neg,Int.natAbs_natCast] at this;omega))];rfl),(IW.zero _ _).as (by rw [ul (qe w12 q21 (by have:=q26;simp only [Int.natAbs_neg,Int.natAbs_natCast] at this;omega))];rfl),⟨fun hq=>(by cases hq),fun hq=>absurd hq (qe w12 q21 (by have:=q26;simp only [Int.natAbs_neg,Int.natAbs_natCast] at this;omega))⟩⟩
  refine zG ?_;refine sS [.bool b18,.slice a18 l18 c18,.bool b23,.slice a23 l23 c23] ?_;intro h28 p28 o28;refine zq ?_;exact ⟨_,_,_,_,_,_,_,_,_,rfl,(i18.t zt).as (by rw [(th w12 q21 (by have:=q26;simp only [Int.natAbs_neg,Int.natAbs_natCast] at this;omega)).2.1,←z12];rfl),(i23.t zt).as (th w12 q21 (by have:=q26;simp only [Int.natAbs_neg,Int.natAbs_natCast] at this;omega)).2.2.symm,⟨fun _=>(th w12 q21 (by have:=q26;simp only [Int.natAbs_neg,Int.natAbs_natCast] at this;omega)).1,fun _=>rfl⟩⟩
 refine zG ?_;refine sC (negX _ (i18.t zt)) ?_;rintro _ h29 n29 ⟨b29,a29,l29,c29,rfl,i29⟩ y29 x29;refine zG ?_;refine sS [.bool b29,.slice a29 l29 c29,.bool false,.slice none 0 0] ?_;intro h30 p30 o30;refine zG ?_;by_cases q31:d12=[]
 ·refine tQ true R6 (by simp [q31]) ?_;refine zG ?_;refine sS [.bool b29,.slice a29 l29 c29,.bool false,.slice none 0 0] ?_;intro h32 p32 o32;refine zq ?_;exact ⟨_,_,_,_,_,_,_,_,_,rfl,(i29.t zt).as (by rw [(vG w12 q31).2.1,←z12];rfl),(IW.zero _ _).as (vG w12 q31).2.2.symm,⟨fun _=>(vG w12 q31).1,fun _=>rfl⟩⟩
 refine tQ false R6 (by simp [q31]) ?_;refine zG ?_;refine sC (zab _ _ _ f12.dd zo) ?_;rintro _ h33 n33 ⟨b33,a33,l33,c33,rfl,i33⟩ y33 x33;refine zG ?_;refine sS (b:=3*n18+2) (off:=2) [.bool b29,.slice a29 l29 c29,.bool b33,.slice a33 l33 c33] ?_;intro h34 p34 o34;refine zG ?_;refine sC (gcdX _ (g.x zx) (i29.t zt) (i33.t zt) (by rw [Int.natAbs_neg];exact (kc f12.dm zo)) (kc f12.dd zo)) ?_;rintro _ h35 n35 ⟨b35,a35,l35,c35,rfl,i35⟩ y35 x35;refine sC (rx _ i35) ?_;rintro _ h36 n36 ⟨b36,rfl,bq36⟩ y36 x36;rcases bvs bq36 with ⟨rfl,q36⟩|⟨rfl,q36⟩
 ·refine zG ?_;refine sT #[.bool false,.slice none 0 0,.bool false,.slice none 0 0] ?_;refine sS [.bool false,.slice none 0 0,.bool false,.slice none 0 0] ?_;intro h37 p37 o37;refine zq ?_;exact ⟨_,_,_,_,_,_,_,_,_,rfl,(IW.zero _ _).as (by rw [ul (qe w12 q31 (by have:=q36;simp only [Int.natAbs_neg,Int.natAbs_natCast] at this;omega))];rfl),(IW.zero _ _).as (by rw [ul (qe w12 q31 (by have:=q36;simp only [Int.natAbs_neg,Int.natAbs_natCast] at this;omega))];rfl),⟨fun hq=>(by cases hq),fun hq=>absurd hq (qe w12 q31 (by have:=q36;simp only [Int.natAbs_neg,Int.natAbs_natCast] at this;omega))⟩⟩
 refine zG ?_;refine sS [.bool b29,.slice a29 l29 c29,.bool b33,.slice a33 l33 c33] ?_;intro h38 p38 o38;refine zq ?_;exact ⟨_,_,_,_,_,_,_,_,_,rfl,(i29.t zt).as (by rw [(th w12 q31 (by have:=q36;simp only [Int.natAbs_neg,Int.natAbs_natCast] at this;omega)).2.1,←z12];rfl),(i33.t zt).as (th w12 q31 (by have:=q36;simp only [Int.natAbs_neg,Int.natAbs_natCast] at this;omega)).2.2.symm,⟨fun _=>(th w12 q31 (by have:=q36;simp only [Int.natAbs_neg,Int.natAbs_natCast] at this;omega)).1,fun _=>rfl⟩⟩
theorem zmh (k:Nat)(g:GG h n)(hs:s.length<20):CX (cal (k+9)) 125 [.string ⟨⟨s⟩⟩] h n fun v h' n'=>∃b a l c d e f g ok,v=.tuple #[.agg #[.bool b,.slice a l c,.bool d,.slice e f g],.bool ok]∧IW h' n' b a l c (z0 s).num∧IW h' n' d e f g (denZ (z0 s))∧(ok=true↔xz s):=zmg k g (.of hs)
def bdOk (s:List UInt8):Prop:=s=[]∨xz s
def pairOk (lo hi:List UInt8):Prop:=bdOk lo∧bdOk hi∧(lo=[]∨hi=[]∨z0 lo≤z0 hi)
end
section
variable {c cs:List Value}{h h':HF}{B cap j len m n n':Nat}{e:TypeId}{a:Option Addr}{S:List (List UInt8)}
structure StayO {D:Type}(P:List Value→D→HF→Nat→Prop):Prop where
 go:∀c d h h' n b cs e,P c d h n→h b=some (.row cs e)→cs.all nu=true→Only b h h'→P c d h' n
theorem ratP.stayO:StayO ratP:=⟨fun _ _ _ _ _ _ _ _ ⟨b,a,l,k,d,e,f,g,e1,i,j⟩ hp hu ho=>⟨b,a,l,k,d,e,f,g,e1,i.only hp hu ho,j.only hp hu ho⟩⟩
theorem numP.stayO:StayO numP:=⟨fun _ _ _ _ _ _ _ _ ⟨b,a,l,k,d,e,f,g,e1,i,j⟩ hp hu ho=>⟨b,a,l,k,d,e,f,g,e1,i.only hp hu ho,j.only hp hu ho⟩⟩
structure Fil {D:Type}(P:List Value→D→HF→Nat→Prop)(h:HF)(n B:Nat)(cs:List Value)(e:TypeId)(S:List D)(j:Nat):Prop where
 row:h B=some (.row cs e)
 len:cs.length=S.length*4
 nus:cs.all nu=true
 rcs:Rec 4 (fun c d=>P c d h n) (cs.take (j*4)) (S.take j)
theorem pC {o:Nat}(h:o+c.length≤cs.length):(zn cs o c).take (o+c.length)=cs.take o++c∧(zn cs o c).length=cs.length:=by
 unfold zn;constructor
 ·rw [←List.append_assoc,List.take_append_of_le_length (by simp only [List.length_append,List.length_take];omega),List.take_of_length_le (by simp only [List.length_append,List.length_take];omega)]
 simp only [List.length_append,List.length_take,List.length_drop];omega
theorem dF {o:Nat}(h1:cs.all nu=true)(h2:c.all nu=true):(zn cs o c).all nu=true:=by
 unfold zn;rw [List.all_eq_true] at*
 intro x hx;simp only [List.mem_append] at hx;rcases hx with hx|hx|hx
 ·exact h1 x (List.mem_of_mem_take hx)
 ·exact h2 x hx
 exact h1 x (List.mem_of_mem_drop hx)
section
variable {D:Type}{P:List Value→D→HF→Nat→Prop}
theorem Fil.ext (hP:Stay P){S:List D}(f:Fil P h n B cs e S j)(x:Ext n h h')(hn:n≤n')(hB:B<3*n):Fil P h' n' B cs e S j:=
 ⟨(x B hB).trans f.row,f.len,f.nus,f.rcs.mono fun c d hp=>hP.go c d _ _ _ _ hp x hn⟩
theorem Fil.step (hO:StayO P){S:List D}{d:D}(f:Fil P h n B cs e S j)(hj:S[j]?=some d)(hc:c.length=4)(hn:c.all nu=true)(hp:P c d h n):Fil P (upd h B (some (.row (zn cs (j*4) c) e))) n B (zn cs (j*4) c) e S (j+1):=by
 have hjl:=(List.getElem?_eq_some_iff.1 hj).1;have hlen:j*4+c.length≤cs.length:=by rw [f.len,hc];omega
 obtain ⟨t1,t2⟩:=pC hlen;have ho:Only B h (upd h B (some (.row (zn cs (j*4) c) e))):=fun b hb=>zj hb;refine ⟨ze _ _ _,t2.trans f.len,dF f.nus hn,?_⟩;rw [hc] at t1;rw [Nat.succ_mul,t1,xf hj];exact (f.rcs.mono fun c d hp=>hO.go c d _ _ _ _ _ _ hp f.row f.nus ho).snoc hc (hO.go c d _ _ _ _ _ _ hp f.row f.nus ho)
theorem Fil.start {z:List Value}{S:List D}(hr:h B=some (.row (rep m z) e))(hz:z.length=4)(hu:z.all nu=true)(hm:m=S.length):Fil P h n B (rep m z) e S 0:=by
 refine ⟨hr,by rw [aJ,hz,hm],?_,by rw [Nat.zero_mul,List.take_zero,List.take_zero];exact .nil⟩;clear hr hm;induction m with
 |zero=>rfl
 |succ m ih=>rw [rep,List.all_append,hu,ih];rfl
theorem Fil.rs {S:List D}(f:Fil P h n B cs e S S.length)(hB:B<3*n):RS 4 P h n (.slice (some ⟨B,0,none⟩) S.length S.length) S:=by
 have hl:=f.len;have hr:=f.rcs;rw [List.take_length,←hl,List.take_length] at hr;exact ⟨cs,.at_ hB f.row rfl (Nat.le_refl _) zo (by rw [List.drop_zero,List.take_of_length_le zo]),hr⟩
end
def QSL (lo:Nat)(h:HF)(n:Nat)(v:Value)(l:List Rat):Prop:=QS h n v l∧∀ad len cap,v=.slice (some ad) len cap→3*lo≤ad.block∧gro ad.block=false
theorem zd1 (k:Nat)(g:GG h n)(hs:Sl h n 1 (.slice a len cap) (strs S))(hl:∀s∈S,s.length<20)(hb:S.length<1000000):
  CX (cal (k+10)) 201 [.slice a len cap] h n fun v h' n'=>∃a' l' c' ok,v=.tuple #[.slice a' l' c',.bool ok]∧(ok=true↔∀s∈S,xz s)∧(ok=true→QSL n h' n' (.slice a' l' c') (S.map z0)):=by
 refine zk (fn:=Tryz.f201) R4 ?_;have e1:=vi hs;subst e1;refine zN ?_;refine sh ?_;repeat refine zR ?_
 refine wE R9 zo ?_;refine sh ?_;refine sh ?_;generalize hh:upd h (3*n+2) _=h1;have hr1:∃cs,Fil ratP h1 (n+1) (3*n+2) cs 139 (S.map z0) 0:=⟨_,.start (by rw [←hh,ze]) rfl rfl (by rw [List.length_map])⟩;have hx1:Ext n h h1:=by rw [←hh];exact Ext.upd zo
 clear hh;refine zQ (α:=Nat) (fun z=>[(4,.slice (some ⟨3*n+2,0,none⟩) S.length S.length),(12,.slice a S.length cap),(13,.int .i64 (S.length:Int)),(14,.int .i64 (z:Int))])
  (fun z h' n' w'=>w'=[]∧n+1≤n'∧Ext n h h'∧(∃cs,Fil ratP h' n' (3*n+2) cs 139 (S.map z0) z)∧z≤S.length∧∀s∈S.take z,xz s) (fun z=>S.length-z)
  0 ⟨rfl,rfl,rfl,rfl,trivial⟩ ⟨rfl,Nat.le_refl _,hx1,hr1,Nat.zero_le _,fun s hs=>absurd hs (by simp)⟩ (by show S.length-0<LL;unfold LL;omega) ?_
 rintro z t h2 n2 _ ⟨rfl,hn2,hx2,⟨cs,hf⟩,hz,hall⟩;refine zN ?_;by_cases hze:z=S.length
 ·refine sh ?_;refine Za ?_;refine sh ?_;rw [hze,List.take_length] at hall;have hfr:=hf;rw [hze,←List.length_map (f:=z0)] at hfr;have hq:=hfr.rs (show 3*n+2<3*n2 by omega);rw [List.length_map] at hq;exact retX [.slice (some ⟨3*n+2,0,none⟩) S.length S.length,.bool true] R3 (show n≤n2 by omega) hx2 ⟨_,_,_,_,rfl,⟨fun _=>hall,fun _=>rfl⟩,fun _=>⟨hq,fun ad l c e=>by cases e;exact ⟨by show 3*n≤3*n+2;omega,yz n⟩⟩⟩
 obtain ⟨s,hsz⟩:∃s,S[z]?=some s:=⟨S[z]'zo,List.getElem?_eq_getElem zo⟩;have hmem:s∈S:=List.mem_of_getElem? hsz;refine sh ?_;refine Zb ?_;refine zM ?_;refine xi (f:=fun s=>Value.string ⟨⟨s⟩⟩) (j:=z) (dv:=s) R7 (hs.ext hx2 (show n≤n2 by omega)) R2 hsz (fun _=>rfl) R4 fun _=>?_;refine sh ?_;refine zM ?_;refine jO R5 (zmh k (g.ext hx2 (show n≤n2 by omega)) (hl s hmem)) ?_;rintro _ h3 n3 ⟨b,a1,l,c,d,e,f,g1,ok,rfl,i3,j3,hok⟩ hn3 hx3;repeat refine zR ?_
 refine we [.bool false,.slice none 0 0,.bool false,.slice none 0 0] R6 ?_;intro h4 p4 x4;refine pz [.bool b,.slice a1 l c,.bool d,.slice e f g1] R5 p4 R3 zb rfl (by show 3*n≤_;omega) ?_;intro h5 p5 o5;have hf4:=(hf.ext ratP.stay hx3 hn3 zo).ext ratP.stay x4 zs zo;have x5:Ext n3 h4 h5:=fun b hb=>o5 b zo;have i5:=(i3.ext x4 zs).only p4 rfl o5;have j5:=(j3.ext x4 zs).only p4 rfl o5;have hf5:Fil ratP h5 (n3+1) (3*n+2) cs 139 (S.map z0) z:=⟨(o5 _ zo).trans hf4.row,hf4.len,hf4.nus,hf4.rcs.mono fun c d hp=>ratP.stayO.go c d _ _ _ _ _ _ hp p4 rfl o5⟩;have hx15:Ext n h h5:=fun b hb=>(x5 b zo).trans ((x4 b zo).trans ((hx3 b zo).trans (hx2 b hb)));refine sh ?_;cases ok with
 |false=>
  refine sh ?_;refine Zb ?_;refine sh ?_;exact retX [.slice none 0 0,.bool false] R3 (show n≤n3+1 by omega) hx15 ⟨_,_,_,_,rfl,⟨fun h=>absurd h (by simp),fun h=>hok.2 (h s hmem)⟩,fun h=>absurd h (by simp)⟩
 |true=>
 refine sh ?_;refine Za ?_;refine Zc ?_;refine zI (v:=.agg #[.bool b,.slice a1 l c,.bool d,.slice e f g1]) R5 (zB R2 p5 rfl zb rfl) ?_;refine bp (aq:=some ⟨3*n+2,0,none⟩) (j:=z) R9 zo ?_;refine yB (b:=3*n+2) (off:=z*4) (cs:=[.bool b,.slice a1 l c,.bool d,.slice e f g1]) ⟨rfl,rfl,rfl,rfl,(by show Value.pointer (some ⟨3*n+2,0+z*4,none⟩)=_;rw [Nat.zero_add]),rfl,rfl,rfl⟩ hf5.row (by rw [hf5.len,List.length_map];omega) (by show 3*n≤_;omega) ?_;have hf6:=hf5.step ratP.stayO (j:=z) (c:=[.bool b,.slice a1 l c,.bool d,.slice e f g1]) (by rw [List.getElem?_map,hsz];rfl) rfl rfl ⟨_,_,_,_,_,_,_,_,rfl,i5,j5⟩;refine zN ?_;refine sh ?_;refine goOn (z+1) (by show S.length-(z+1)<S.length-z;omega) ⟨rfl,rfl,rfl,rfl,trivial⟩ ⟨rfl,by show n+1≤n3+1;omega,fun b hb=>(zj zo).trans (hx15 b hb),⟨_,hf6⟩,by show z+1≤S.length;omega,?_⟩;intro s' hs';rw [xf hsz] at hs';rcases List.mem_append.1 hs' with h'|h'
 ·exact hall s' h'
 rw [List.mem_singleton.1 h'];exact hok.1 rfl
theorem zh7 (k:Nat)(hs:Sl h n 1 (.slice a len cap) (strs S))(hl:∀s∈S,s.length<11)(hb:S.length<1000000):
  CX (cal (k+7)) 16 [.slice a len cap] h n fun v h' n'=>∃a' l' c' ok,v=.tuple #[.slice a' l' c',.bool ok]∧(ok=true↔∀s∈S,xz s)∧(ok=true→NS h' n' (.slice a' l' c') (S.map z0)):=by
 refine zk (fn:=Tryz.f16) R4 ?_;have e1:=vi hs;subst e1;refine zN ?_;refine sh ?_;repeat refine zR ?_
 refine wE R9 zo ?_;refine sh ?_;refine sh ?_;generalize hh:upd h (3*n+2) _=h1;have hr1:∃cs,Fil numP h1 (n+1) (3*n+2) cs 51 (S.map z0) 0:=⟨_,.start (by rw [←hh,ze]) rfl rfl (by rw [List.length_map])⟩;have hx1:Ext n h h1:=by rw [←hh];exact Ext.upd zo
 clear hh;refine zQ (α:=Nat) (fun z=>[(0,.slice a S.length cap),(4,.slice (some ⟨3*n+2,0,none⟩) S.length S.length),(5,.int .i64 (z:Int))])
  (fun z h' n' w'=>w'=[]∧n+1≤n'∧Ext n h h'∧(∃cs,Fil numP h' n' (3*n+2) cs 51 (S.map z0) z)∧z≤S.length∧∀s∈S.take z,xz s) (fun z=>S.length-z)
  0 ⟨rfl,rfl,rfl,trivial⟩ ⟨rfl,Nat.le_refl _,hx1,hr1,Nat.zero_le _,fun s hs=>absurd hs (by simp)⟩ (by show S.length-0<LL;unfold LL;omega) ?_
 rintro z t h2 n2 _ ⟨rfl,hn2,hx2,⟨cs,hf⟩,hz,hall⟩;refine zN ?_;by_cases hze:z=S.length
 ·refine sh ?_;refine Za ?_;refine sh ?_;rw [hze,List.take_length] at hall;have hfr:=hf;rw [hze,←List.length_map (f:=z0)] at hfr;have hq:=hfr.rs (show 3*n+2<3*n2 by omega);rw [List.length_map] at hq;exact retX [.slice (some ⟨3*n+2,0,none⟩) S.length S.length,.bool true] R3 (show n≤n2 by omega) hx2 ⟨_,_,_,_,rfl,⟨fun _=>hall,fun _=>rfl⟩,fun _=>hq⟩
 obtain ⟨s,hsz⟩:∃s,S[z]?=some s:=⟨S[z]'zo,List.getElem?_eq_getElem zo⟩;have hmem:s∈S:=List.mem_of_getElem? hsz;refine sh ?_;refine Zb ?_;refine Zc ?_;refine xi (f:=fun s=>Value.string ⟨⟨s⟩⟩) (j:=z) (dv:=s) R7 (hs.ext hx2 (show n≤n2 by omega)) R2 hsz (fun _=>rfl) R4 fun _=>?_;refine jO R5 (zf9 k _ _ s (by have:=hl s hmem;omega)) ?_;rintro _ h3 n3 ⟨b,a1,l,c,d,e,f,g1,ok,q,rfl,i3,j3,hk1,hk2⟩ hn3 hx3;repeat refine zR ?_
 refine we [.bool false,.slice none 0 0,.bool false,.slice none 0 0] R6 ?_;intro h4 p4 x4;refine pz [.bool b,.slice a1 l c,.bool d,.slice e f g1] R5 p4 R3 zb rfl (by show 3*n≤_;omega) ?_;intro h5 p5 o5;have hf4:=(hf.ext numP.stay hx3 hn3 zo).ext numP.stay x4 zs zo;have x5:Ext n3 h4 h5:=fun b hb=>o5 b zo;have i5:=(i3.ext x4 zs).only p4 rfl o5;have j5:=(j3.ext x4 zs).only p4 rfl o5;have hf5:Fil numP h5 (n3+1) (3*n+2) cs 51 (S.map z0) z:=⟨(o5 _ zo).trans hf4.row,hf4.len,hf4.nus,hf4.rcs.mono fun c d hp=>numP.stayO.go c d _ _ _ _ _ _ hp p4 rfl o5⟩;have hx15:Ext n h h5:=fun b hb=>(x5 b zo).trans ((x4 b zo).trans ((hx3 b zo).trans (hx2 b hb)));refine sh ?_;cases ok with
 |false=>
  refine sh ?_;refine Zb ?_;refine sh ?_;exact retX [.slice none 0 0,.bool false] R3 (show n≤n3+1 by omega) hx15 ⟨_,_,_,_,rfl,⟨fun h=>absurd h (by simp),fun h=>hk2 (h s hmem)⟩,fun h=>absurd h (by simp)⟩
 |true=>
 have hq:=rp (hk1 rfl);subst hq;refine sh ?_;refine Za ?_;refine Zc ?_;refine zI (v:=.agg #[.bool b,.slice a1 l c,.bool d,.slice e f g1]) R5 (zB R2 p5 rfl zb rfl) ?_;refine bp (aq:=some ⟨3*n+2,0,none⟩) (j:=z) R9 zo ?_;refine yB (b:=3*n+2) (off:=z*4) (cs:=[.bool b,.slice a1 l c,.bool d,.slice e f g1]) ⟨rfl,rfl,rfl,rfl,(by show Value.pointer (some ⟨3*n+2,0+z*4,none⟩)=_;rw [Nat.zero_add]),rfl,rfl,rfl⟩ hf5.row (by rw [hf5.len,List.length_map];omega) (by show 3*n≤_;omega) ?_;have hf6:=hf5.step numP.stayO (j:=z) (c:=[.bool b,.slice a1 l c,.bool d,.slice e f g1]) (by rw [List.getElem?_map,hsz];rfl) rfl rfl ⟨_,_,_,_,_,_,_,_,rfl,i5,j5⟩;refine zN ?_;refine sh ?_;refine goOn (z+1) (by show S.length-(z+1)<S.length-z;omega) ⟨rfl,rfl,rfl,trivial⟩ ⟨rfl,by show n+1≤n3+1;omega,fun b hb=>(zj zo).trans (hx15 b hb),⟨_,hf6⟩,by show z+1≤S.length;omega,?_⟩;intro s' hs';rw [xf hsz] at hs';rcases List.mem_append.1 hs' with h'|h'
 ·exact hall s' h'
 rw [List.mem_singleton.1 h'];exact ⟨_,hk1 rfl⟩
end
def tU (a:Nat→Nat→Rat)(k:Nat):Nat→Nat→Rat:=fun i j=>if k<i∧k<j then a i j-a i k/a k k*a k j else a i j
def psdA (n:Nat):Nat→Nat→(Nat→Nat→Rat)→Prop
 |0,_,_=>True
 |m+1,k,a=>0≤a k k∧(a k k=0→∀i,k<i→i<n→a i k=0)∧psdA n m (k+1) (tU a k)
theorem nV {a:Nat→Nat→Rat}(h:a k k=0):tU a k=a:=by
 funext i j;unfold tU;split
 ·rw [h,Rat.div_def,Rat.inv_zero,Rat.mul_zero,Rat.zero_mul,Rat.sub_eq_add_neg,Rat.neg_zero,Rat.add_zero]
 rfl
def TabR (n:Nat)(T:Nat→Nat→Int)(bf:Int)(s:Nat→Rat)(a:Nat→Nat→Rat)(k:Nat):Prop:=∀i j,k≤i→i<n→k≤j→j<n→(T i j:Rat)=bf*s i*a i j
theorem vj {x:Int}:((x:Rat)=0)↔x=0:=by
 constructor
 ·intro h;have:(x:Rat)=((0:Int):Rat):=h;exact Rat.intCast_inj.1 this
 rintro rfl;rfl
theorem uZ {T:Nat→Nat→Int}{s:Nat→Rat}{a:Nat→Nat→Rat}(h:TabR n T bf s a k)(hb:0<bf)(hs:∀i,0<s i)(h1:k≤i)(h2:i<n)(h3:k≤j)(h4:j<n):T i j=0↔a i j=0:=by
 have e:=h i j h1 h2 h3 h4;have hb':(bf:Rat)≠0:=fun e=>by have:=vj.1 e;omega
 have hs':=hs i;rw [←vj,e];constructor
 ·intro h;rcases Rat.mul_eq_zero.1 h with h|h
  ·rcases Rat.mul_eq_zero.1 h with h|h
   ·exact absurd h hb'
   rw [h] at hs';exact absurd hs' zd
  exact h
 intro h;rw [h,Rat.mul_zero]
def yq (T:Nat→Nat→Int)(k:Nat)(bf:Int):Nat→Nat→Int:=fun i j=>if k<i then (T k k*T i j-T i k*T k j).tdiv bf else T i j
theorem bN {T:Nat→Nat→Int}{s:Nat→Rat}{a:Nat→Nat→Rat}(h:TabR n T bf s a k)(hb:0<bf)(hk:k<n)(hp:T k k≠0)(hd:∀i j,k<i→i<n→k<j→j<n→bf∣T k k*T i j-T i k*T k j):TabR n (yq T k bf) (T k k) s (tU a k) (k+1):=by
 intro i j h1 h2 h3 h4;have hki:k<i:=h1;have hkj:k<j:=h3;unfold yq tU;rw [if_pos hki,if_pos ⟨hki,hkj⟩];obtain ⟨q,hq⟩:=hd i j hki h2 hkj h4;have hb':(bf:Rat)≠0:=fun e=>by have:=vj.1 e;omega
 have e1:=h k k (Nat.le_refl _) hk (Nat.le_refl _) hk;have e2:=h i j zo h2 zo h4;have e3:=h i k zo h2 (Nat.le_refl _) hk;have e4:=h k j (Nat.le_refl _) hk zo h4;have hp':(T k k:Rat)≠0:=fun e=>hp (vj.1 e);have ha:a k k≠0:=fun e=>hp' (by rw [e1,e,Rat.mul_zero]);rw [hq,Int.mul_tdiv_cancel_left _ zo];have hq':((T k k:Rat)*T i j-T i k*T k j)=bf*q:=by
  have:=congrArg (fun x:Int=>(x:Rat)) hq;simpa [Rat.intCast_sub,Rat.intCast_mul] using this
 rw [e2,e3,e4] at hq';have hc:a i k/a k k*a k k=a i k:=Rat.div_mul_cancel ha;generalize a i k/a k k=c at hc ⊢;generalize (T k k:Rat)=t at*
 generalize (q:Rat)=q at*
 generalize (bf:Rat)=b at*
 have:b*q=b*(t*s i*(a i j-c*a k j)):=by
  rw [←hq',e1,←hc]
  grind
 grind
inductive LdS (n:Nat) (T0:Nat→Nat→Int):Nat→(Nat→Nat→Int)→Int→Prop
 |zero:LdS n T0 0 T0 1
 |skip {k T bf} (h:LdS n T0 k T bf) (h0:∀i,k≤i→i<n→T i k=0):LdS n T0 (k+1) T bf
 |clear {k T bf} (h:LdS n T0 k T bf) (hp:T k k≠0) (hk:k<n):LdS n T0 (k+1) (yq T k bf) (T k k)
def det3 (T:Nat→Nat→Int):Int:=T 0 0*(T 1 1*T 2 2-T 1 2*T 2 1)-T 0 1*(T 1 0*T 2 2-T 1 2*T 2 0)+T 0 2*(T 1 0*T 2 1-T 1 1*T 2 0)
theorem eD (T:Nat→Nat→Int):(T 0 0*T 1 1-T 1 0*T 0 1)*(T 0 0*T 2 2-T 2 0*T 0 2)-(T 0 0*T 2 1-T 2 0*T 0 1)*(T 0 0*T 1 2-T 1 0*T 0 2)=T 0 0*det3 T:=by unfold det3;grind
theorem xn {T:Nat→Nat→Int}(h:k<i):yq T k 1 i j=T k k*T i j-T i k*T k j:=by
 unfold yq;rw [if_pos h,Int.tdiv_one]
theorem LdS.dvd {T0 T:Nat→Nat→Int}(hn:n≤3)(h:LdS n T0 k T bf):∀i j,k<i→i<n→k<j→j<n→bf∣T k k*T i j-T i k*T k j:=by
 intro i j h1 h2 h3 h4;cases h with
 |zero=>exact Int.one_dvd _
 |skip h _=>
  cases h with
  |zero=>exact Int.one_dvd _
  |skip=>omega
  |clear=>omega
 |clear h hp hk=>
  cases h with
  |zero=>
   have hi:i=2:=zo;have hj:j=2:=zo;subst hi hj;show T0 0 0∣yq T0 0 1 1 1*yq T0 0 1 2 2-yq T0 0 1 2 1*yq T0 0 1 1 2;rw [xn zo,xn zo,xn zo,xn zo,eD];exact Int.dvd_mul_right _ _
  |skip=>omega
  |clear=>omega
def bndT (M:Nat):Nat→Nat
 |0=>M
 |1=>2*(M*M)
 |_=>6*(M*(M*M))
theorem rG {a b c d:Int}{M:Nat}(ha:a.natAbs≤M)(hb:b.natAbs≤M)(hc:c.natAbs≤M)(hd:d.natAbs≤M):(a*b-c*d).natAbs≤2*(M*M):=by
 have h1:=Int.natAbs_sub_le (a*b) (c*d);rw [Int.natAbs_mul,Int.natAbs_mul] at h1;have h2:=Nat.mul_le_mul ha hb;have h3:=Nat.mul_le_mul hc hd;omega
theorem qB {a b:Int}{M:Nat}(ha:a.natAbs≤M)(hb:b.natAbs≤N):(a*b).natAbs≤M*N:=by
 rw [Int.natAbs_mul];exact Nat.mul_le_mul ha hb
theorem zfs {T:Nat→Nat→Int}{M:Nat}(h:∀i j,i<3→j<3→(T i j).natAbs≤M):(det3 T).natAbs≤6*(M*(M*M)):=by
 have a0:=qB (h 0 0 zo zo) (rG (h 1 1 zo zo) (h 2 2 zo zo) (h 1 2 zo zo) (h 2 1 zo zo));have a1:=qB (h 0 1 zo zo) (rG (h 1 0 zo zo) (h 2 2 zo zo) (h 1 2 zo zo) (h 2 0 zo zo));have a2:=qB (h 0 2 zo zo) (rG (h 1 0 zo zo) (h 2 1 zo zo) (h 1 1 zo zo) (h 2 0 zo zo));unfold det3;generalize T 0 0*_=x at*
 generalize T 0 1*_=y at*
 generalize T 0 2*_=z at*
 have e:M*(2*(M*M))=2*(M*(M*M)):=by rw [Nat.mul_left_comm]
 rw [e] at a0 a1 a2;omega
theorem zfe {T:Nat→Nat→Int}(h:k<i):yq T k bf i j=(T k k*T i j-T i k*T k j).tdiv bf:=by
 unfold yq;rw [if_pos h]
theorem oW {T:Nat→Nat→Int}(h:i≤k):yq T k bf i j=T i j:=by
 unfold yq;rw [if_neg zo]
theorem nf {M:Nat}(h:1≤M):M≤bndT M 1∧bndT M 1≤bndT M 2∧M≤bndT M 2:=by
 have h1:M*1≤M*M:=Nat.mul_le_mul_left M h;have h2:M*M*1≤M*M*M:=Nat.mul_le_mul_left (M*M) h;rw [Nat.mul_assoc M M M] at h2;show M≤2*(M*M)∧2*(M*M)≤6*(M*(M*M))∧M≤6*(M*(M*M));omega
theorem zcj {M:Nat}{T:Nat→Nat→Int}(hk:k<n)(h1:1≤M)(hM:∀i j,i<n→j<n→(T i j).natAbs≤M):∀i j,i<n→j<n→(yq T k 1 i j).natAbs≤bndT M 1:=by
 intro i j hi hj;by_cases h:k<i
 ·rw [xn h];exact rG (hM _ _ hk hk) (hM _ _ hi hj) (hM _ _ hi hk) (hM _ _ hk hj)
 rw [oW zo];exact Nat.le_trans (hM _ _ hi hj) (nf h1).1
theorem LdS.bound {M:Nat}{T0 T:Nat→Nat→Int}(hn:n≤3)(h1:1≤M)(hM:∀i j,i<n→j<n→(T0 i j).natAbs≤M)(h:LdS n T0 k T bf)(hk:k<n):(∀i j,i<n→j<n→(T i j).natAbs≤bndT M k)∧bf.natAbs≤bndT M 1∧(k≤1→bf.natAbs≤M):=by
 obtain ⟨m1,m2,m3⟩:=nf h1;have o1:(1:Int).natAbs≤bndT M 1:=Nat.le_trans h1 m1;have c1:∀k,k<n→∀i j,i<n→j<n→(yq T0 k 1 i j).natAbs≤bndT M 1:=fun k hk=>zcj hk h1 hM;cases h with
 |zero=>exact ⟨hM,o1,fun _=>h1⟩
 |skip h _=>
  cases h with
  |zero=>exact ⟨fun i j hi hj=>Nat.le_trans (hM i j hi hj) m1,o1,fun _=>h1⟩
  |skip h _=>
   cases h with
   |zero=>exact ⟨fun i j hi hj=>Nat.le_trans (hM i j hi hj) m3,o1,fun _=>h1⟩
   |skip=>omega
   |clear=>omega
  |clear h hp hk0=>
   cases h with
   |zero=>exact ⟨fun i j hi hj=>Nat.le_trans (c1 0 hk0 i j hi hj) m2,Nat.le_trans (hM 0 0 hk0 hk0) m1,fun h=>by omega⟩
   |skip=>omega
   |clear=>omega
 |clear h hp hk0=>
  cases h with
  |zero=>exact ⟨c1 0 hk0,Nat.le_trans (hM 0 0 hk0 hk0) m1,fun _=>hM 0 0 hk0 hk0⟩
  |skip h _=>
   cases h with
   |zero=>exact ⟨fun i j hi hj=>Nat.le_trans (c1 1 hk0 i j hi hj) m2,Nat.le_trans (hM 1 1 hk0 hk0) m1,fun h=>by omega⟩
   |skip=>omega
   |clear=>omega
  |clear h hp0 hk1=>
   cases h with
   |zero=>
    refine ⟨fun i j hi hj=>?_,c1 0 hk1 1 1 hk0 hk0,fun h=>by omega⟩;by_cases hi1:i≤1
    ·rw [oW hi1];exact Nat.le_trans (c1 0 hk1 i j hi hj) m2
    have hi2:i=2:=zo;subst hi2;have key:∀j,yq (yq T0 0 1) 1 (T0 0 0) 2 j=(yq T0 0 1 1 1*yq T0 0 1 2 j-yq T0 0 1 2 1*yq T0 0 1 1 j).tdiv (T0 0 0):=fun j=>zfe zo;rw [key];have hj3:j=0∨j=1∨j=2:=zo;rcases hj3 with rfl|rfl|rfl
    ·rw [xn (T:=T0) (i:=2) (j:=0) zo,xn (T:=T0) (i:=1) (j:=0) zo];rw [Int.mul_comm (T0 2 0),Int.sub_self,Int.mul_comm (T0 1 0),Int.sub_self,Int.mul_zero,Int.mul_zero,Int.sub_self,Int.zero_tdiv];exact Nat.zero_le _
    ·rw [Int.mul_comm (yq T0 0 1 2 1),Int.sub_self,Int.zero_tdiv];exact Nat.zero_le _
    rw [xn zo,xn zo,xn zo,xn zo,eD,Int.mul_tdiv_cancel_left _ hp0];exact zfs fun i j hi hj=>hM i j zo zo
   |skip=>omega
   |clear=>omega
structure LdI (n:Nat)(T0:Nat→Nat→Int)(s:Nat→Rat)(a0:Nat→Nat→Rat)(k:Nat)(T:Nat→Nat→Int)(bf:Int)(a:Nat→Nat→Rat):Prop where
 tab:TabR n T bf s a k
 ls:LdS n T0 k T bf
 pos:0<bf
 eq:psdA n n 0 a0↔psdA n (n-k) k a
section
variable {n k:Nat}{T0 T:Nat→Nat→Int}{s:Nat→Rat}{a0 a:Nat→Nat→Rat}{bf:Int}
theorem LdI.start (h:TabR n T0 1 s a0 0):LdI n T0 s a0 0 T0 1 a0:=⟨h,.zero,by decide,Iff.rfl⟩
theorem LdI.done (h:LdI n T0 s a0 k T bf a)(hk:k=n):psdA n n 0 a0:=by
 rw [h.eq,hk,Nat.sub_self];trivial
theorem LdI.unf (h:LdI n T0 s a0 k T bf a)(hk:k<n):psdA n n 0 a0↔(0≤a k k∧(a k k=0→∀i,k<i→i<n→a i k=0)∧psdA n (n-(k+1)) (k+1) (tU a k)):=by
 rw [h.eq,show n-k=(n-(k+1))+1 by omega];exact Iff.rfl
theorem LdI.neg (h:LdI n T0 s a0 k T bf a)(hk:k<n)(hn:a k k<0):¬psdA n n 0 a0:=by
 rw [h.unf hk];exact fun h=>Rat.not_lt.2 h.1 hn
theorem LdI.found (h:LdI n T0 s a0 k T bf a)(hs:∀i,0<s i)(hk:k<n)(hz:a k k=0)(hi:k<i)(hin:i<n)(ht:T i k≠0):¬psdA n n 0 a0:=by
 rw [h.unf hk];exact fun h'=>ht ((uZ h.tab h.pos hs zo hin (Nat.le_refl _) hk).2 (h'.2.1 hz i hi hin))
theorem LdI.skip (h:LdI n T0 s a0 k T bf a)(hs:∀i,0<s i)(hk:k<n)(hz:a k k=0)(ht:∀i,k<i→i<n→T i k=0):LdI n T0 s a0 (k+1) T bf a:=by
 refine ⟨fun i j h1 h2 h3 h4=>h.tab i j zo h2 zo h4,h.ls.skip fun i h1 h2=>?_,h.pos,?_⟩
 ·rcases Nat.lt_or_eq_of_le h1 with h1|rfl
  ·exact ht i h1 h2
  exact (uZ h.tab h.pos hs (Nat.le_refl _) hk (Nat.le_refl _) hk).2 hz
 rw [h.unf hk,nV hz];constructor
 ·exact fun h=>h.2.2
 exact fun h'=>⟨by rw [hz];exact Rat.le_refl,fun _ i hi hin=>(uZ h.tab h.pos hs zo hin (Nat.le_refl _) hk).1 (ht i hi hin),h'⟩
theorem LdI.pivot (h:LdI n T0 s a0 k T bf a)(hs:∀i,0<s i)(hk:k<n)(hp:0<a k k):0<T k k:=by
 have e:=h.tab k k (Nat.le_refl _) hk (Nat.le_refl _) hk;have hb:(0:Rat)<bf:=Rat.intCast_pos.2 h.pos;have:(0:Rat)<T k k:=by rw [e];exact Rat.mul_pos (Rat.mul_pos hb (hs k)) hp
 exact Rat.intCast_pos.1 this
theorem LdI.step (hn:n≤3)(h:LdI n T0 s a0 k T bf a)(hs:∀i,0<s i)(hk:k<n)(hp:0<a k k):LdI n T0 s a0 (k+1) (yq T k bf) (T k k) (tU a k):=by
 have hT:=h.pivot hs hk hp;refine ⟨bN h.tab h.pos hk zo (h.ls.dvd hn),h.ls.clear zo hk,hT,?_⟩;rw [h.unf hk];constructor
 ·exact fun h=>h.2.2
 exact fun h'=>⟨Rat.le_of_lt hp,fun e=>absurd hp (by rw [e];decide),h'⟩
theorem LdI.value (h:LdI n T0 s a0 k T bf a){D:Int}(hD:0<D)(hs:∀i,s i=(D:Rat))(h1:k≤i)(h2:i<n)(h3:k≤j)(h4:j<n):a i j=(T i j:Rat)/((bf*D:Int):Rat):=by
 have e:=h.tab i j h1 h2 h3 h4;rw [hs i] at e;have hb:(bf:Rat)≠0:=fun e=>by have:=vj.1 e;have:=h.pos;omega
 have hd:(D:Rat)≠0:=fun e=>by have:=vj.1 e;omega
 rw [e,Rat.intCast_mul,Rat.div_def,Rat.mul_comm _ (a i j),Rat.mul_assoc,Rat.mul_inv_cancel _ (fun e=>(Rat.mul_eq_zero.1 e).elim hb hd),Rat.mul_one]
end
noncomputable def ctxR (k n nt l:Nat):CtxF:={E:=env,C:=cal k,L:=LL,round:=some l,n0:=n,nt:=nt}
def YF (C:CalF)(l:Nat)(args:List Value)(h:HF)(n:Nat)(P:HF→Nat→List Nat→Prop):Prop:=∃h' n' w,C.yl l args h n=some (.bool true,h',n',w)∧P h' n' w
def RndE (l:Nat)(B:BF)(B':BF)(P:HF→Nat→List Nat→Prop):Ex→SV→Prop:=fun e s=>e=.normal∧s.h l=some B∧P (upd s.h l (some B')) s.n (l::s.w)
def RndA (X:CtxF)(l:Nat)(B0 B B':BF)(body:Code)(P:HF→Nat→List Nat→Prop):Ex→SV→Prop:=fun e s=>e=.normal∧s.h l=some B0∧EC X body ⟨s.t,upd s.h l (some B),s.n,l::s.w⟩ (RndE l B B' P)
theorem zft {h:HF}{n d:Nat}{τ τ1:TF}{ps:List Tmp}{P:HF→Nat→List Nat→Prop}(hl:h l=some (.loop true none τ nt ps assign body d))(hb:Nat.beq args.length ps.length=true)(hs:qI nt ps args τ=some τ1)
  (hx:EC (ctxR k n nt l) assign ⟨τ1,h,n,[]⟩ (RndA (ctxR k n nt l) l (.loop true none τ nt ps assign body d) (.loop false none τ nt ps assign body d) (.loop true none τ nt ps assign body d) body P)):YF (cal (k+1)) l args h n P:=by
 obtain ⟨e,s1,h1,rfl,h2,e2,s2,h3,rfl,h4,h5⟩:=hx;refine ⟨_,_,_,?_,h5⟩;show kR env (cal k) LL l args h n=_;unfold kR;rw [hl];simp only [hb,hs];unfold ctxR at h1 h3;rw [h1];simp only [h2];rw [h3];simp only [h4]
theorem zfx {X:CtxF}{g:Operand}{gf:FuncId}{first cap:Array Value}{ps:Array Tmp}{t:TF}{h:HF}{n:Nat}{w:List Nat}{Q:Ex→SV→Prop}(hr:X.round=none)(hg:evF t g=.func (.func gf) first cap)
  (hc:CF X.C gf (first.toList++([.func (.yield (3*(n+1)+2)) #[] #[]]++cap.toList)) (upd (upd h (3*n+2) (some .dfr)) (3*(n+1)+2) (some (.loop true none t X.nt ps.toList assign body (3*n+2)))) (n+2)
   fun _ h' n' w'=>(∃t' nt' ps' a' b' d',h' (3*(n+1)+2)=some (.loop true none t' nt' ps' a' b' d'))∧h' (3*n+2)=some .dfr∧Q .normal ⟨t,upd (upd h' (3*(n+1)+2) none) (3*n+2) none,n',addW X.n0 w' w⟩):EC X (.rangeFunc g ps assign body) ⟨t,h,n,w⟩ Q:=by
 obtain ⟨v,h',n',w',h1,⟨t',nt',ps',a',b',d',h2⟩,h3,h4⟩:=hc;refine ⟨_,_,?_,h4⟩;unfold y0 kW;simp only [hg,hr];rw [show n+1+1=n+2 from rfl,h1];simp only [h2,h3,za1]
section
variable {X:CtxF}{ops r:List Oper}{t:TF}{h:HF}{n:Nat}{w:List Nat}{Q:SV→Prop}{o:Oper}{d:Tmp}
theorem zdk (P:HF→Nat→List Nat→Prop)(hw:zh ops t o=true)(hd:o.dst=some d)(hn:zm X.nt (some d)=true)(hc:cls o.op=3)(he:effF X.E o.op (evF t) h n=some (.round l args))(hcall:YF X.C l args h n P)
  (k:∀h' n' w',P h' n' w'→EO X ops r ⟨upd t d (.bool true),h',n',addW X.n0 w' w⟩ Q):EO X ops (o::r) ⟨t,h,n,w⟩ Q:=by
 obtain ⟨h1,n1,w1,hc1,hp⟩:=hcall;have:=k h1 n1 w1 hp;unfold EO at this ⊢;rw [seqF,hw];simp only [opF,hc,oI,he,hc1,xC,hd,hn];exact this
theorem ze3 {ms:List Nat}{al ld:List (Nat×Nat)}{ef:List (Nat×HF×List Nat)}(P:HF→Nat→List Nat→Prop)(hw:zh ops t o=true)(hd:o.dst=some d)(hn:zm X.nt (some d)=true)(hc:cls o.op=3)(he:effF X.E o.op (evF t) h n=some (.round l args))(h1:yN m ef=true)(h2:xI m al=true)(hcall:YF X.C l args h n P)
  (k:∀h' n' W,P h' n' W→zV m W ld=true∧n≤n'∧ED X ops r ms (i+1) ⟨⟨upd t d (.bool true),h',n',addW X.n0 W w⟩,al,ld,(i,h,W)::ef⟩ Q):ED X ops (o::r) (m::ms) i ⟨⟨t,h,n,w⟩,al,ld,ef⟩ Q:=by
 obtain ⟨h',n',W,hc1,hp⟩:=hcall;obtain ⟨h3,h4,s',h5,h6⟩:=k h' n' W hp;refine ⟨s',?_,h6⟩;unfold zZ;simp only [hw];unfold qo;simp only [hc,h1,h2,Bool.and_self,oI,he,hc1,xC,hd,hn,h3,Nat.ble_eq_true_of_le h4];exact h5
end
structure YS (C:CalF)(l:Nat)(W:Nat→Prop)(args:Nat→List Value)(K:Nat)(I:Nat→HF→Nat→Prop):Prop where
 step:∀k h n,k<K→I k h n→YF C l (args k) h n fun h' n' w=>I (k+1) h' n'∧n≤n'∧(∀c,c<3*n→¬W c→h' c=h c)∧∀c∈w,W c∨3*n≤c
theorem xS:∀(l w:List Nat),∀c∈addW n0 l w,(c∈l∧c<3*n0)∨c∈w:=by
 intro l;induction l with
 |nil=>intro w c hc;exact Or.inr hc
 |cons b l ih=>
  intro w c hc;unfold addW at hc;cases hb:Nat.ble (3*n0) b with
  |true=>
   simp only [hb] at hc;rcases ih w c hc with ⟨h1,h2⟩|h1
   ·exact Or.inl ⟨List.mem_cons_of_mem _ h1,h2⟩
   exact Or.inr h1
  |false=>
   simp only [hb] at hc;have hlt:b<3*n0:=by
    rcases Nat.lt_or_ge b (3*n0) with h|h
    ·exact h
    rw [Nat.ble_eq_true_of_le h] at hb;cases hb
   rcases ih (b::w) c hc with ⟨h1,h2⟩|h1
   ·exact Or.inl ⟨List.mem_cons_of_mem _ h1,h2⟩
   rcases List.mem_cons.1 h1 with rfl|h1
   ·exact Or.inl ⟨List.mem_cons_self ..,hlt⟩
   exact Or.inr h1
theorem uS:∀(l w:List Nat),∀c∈w,c∈addW n0 l w:=by
 intro l;induction l with
 |nil=>intro w c hc;exact hc
 |cons b l ih=>
  intro w c hc;unfold addW;cases hb:Nat.ble (3*n0) b with
  |true=>exact ih w c hc
  |false=>exact ih (b::w) c (List.mem_cons_of_mem _ hc)
theorem uT {c:Nat}(hc:c<3*n0):∀{l w:List Nat},c∈l→c∈addW n0 l w:=by
 intro l;induction l with
 |nil=>intro w h;exact absurd h List.not_mem_nil
 |cons b l ih=>
  intro w h;unfold addW;cases hb:Nat.ble (3*n0) b with
  |true=>
   rcases List.mem_cons.1 h with rfl|h
   ·have:=Nat.le_of_ble_eq_true hb;omega
   exact ih h
  |false=>
   rcases List.mem_cons.1 h with rfl|h
   ·exact uS l _ _ (List.mem_cons_self ..)
   exact ih h
section
variable {α:Type}{L N bt cap j len off:Nat}{c cs:List Value}{e ty:TypeId}{x:Operand}{z:Value}
def tabL {α:Type}(N:Nat)(T:Nat→Nat→α):List α:=(List.range (N*N)).map fun m=>T (m/N) (m%N)
theorem yO {T:Nat→Nat→α}:(tabL N T).length=N*N:=by
 unfold tabL;rw [List.length_map,List.length_range]
theorem tK {i:Nat}(hi:i<N)(hj:j<N):i*N+j<N*N:=by
 have h:=Nat.mul_le_mul_right N (show i+1≤N from hi);rw [Nat.add_mul,Nat.one_mul] at h;omega
theorem lQ {i:Nat}(hj:j<N):(i*N+j)/N=i∧(i*N+j)%N=j:=
 ⟨by rw [Nat.add_comm,Nat.add_mul_div_right _ _ zo,Nat.div_eq_of_lt hj,Nat.zero_add],by rw [Nat.add_comm,Nat.add_mul_mod_self_right,Nat.mod_eq_of_lt hj]⟩
theorem wo {i:Nat}{T:Nat→Nat→α}(hi:i<N)(hj:j<N):(tabL N T)[i*N+j]?=some (T i j):=by
 unfold tabL;rw [List.getElem?_map,List.getElem?_range (tK hi hj)];show some (T ((i*N+j)/N) ((i*N+j)%N))=_;rw [(lQ hj).1,(lQ hj).2]
theorem mI {m:Nat}{T:Nat→Nat→α}(hm:m<N*N):(tabL N T)[m]?=some (T (m/N) (m%N)):=by
 unfold tabL;rw [List.getElem?_map,List.getElem?_range hm];rfl
theorem nI {T U:Nat→Nat→α}(h:∀i j,i<N→j<N→T i j=U i j):tabL N T=tabL N U:=by
 refine List.ext_getElem? fun m=>?_;by_cases hm:m<N*N
 ·rw [mI hm,mI hm,h _ _ (Nat.div_lt_of_lt_mul hm) (Nat.mod_lt _ (Nat.pos_of_ne_zero fun e=>by subst e;omega))]
 rw [List.getElem?_eq_none (by rw [yO];omega),List.getElem?_eq_none (by rw [yO];omega)]
def updT {α:Type}(T:Nat→Nat→α)(i j:Nat)(x:α):Nat→Nat→α:=fun a b=>if a=i∧b=j then x else T a b
theorem gW {i:Nat}{T:Nat→Nat→α}{x:α}(_hi:i<N)(hj:j<N):(tabL N T).set (i*N+j) x=tabL N (updT T i j x):=by
 refine List.ext_getElem? fun m=>?_;by_cases hm:m<N*N
 ·rw [List.getElem?_set,yO];by_cases e:i*N+j=m
  ·subst e;rw [if_pos rfl,if_pos hm,wo _hi hj];unfold updT;rw [if_pos ⟨rfl,rfl⟩]
  rw [if_neg e,mI hm,mI hm];unfold updT;rw [if_neg];rintro ⟨h1,h2⟩;have h3:=Nat.div_add_mod m N;rw [h1,h2,Nat.mul_comm] at h3;exact e h3
 rw [List.getElem?_eq_none (by rw [List.length_set,yO];omega),List.getElem?_eq_none (by rw [yO];omega)]
structure KP {D:Type}(sz:Nat)(P:List Value→D→HF→Nat→Prop):Prop where
 t:∀{c d h n h' n'},P c d h n→Tr n h n' h'→P c d h' n'
 c:∀{c d h n},P c d h n→c.length=sz∧c.all nu=true∧ones c=true
def OR {D:Type}(sz:Nat)(P:List Value→D→HF→Nat→Prop)(h:HF)(n b:Nat)(ds:List D):Prop:=b<3*n∧∃C e,h b=some (.row C e)∧C.all nu=true∧Rec sz (fun c d=>P c d h n) C ds
theorem Rec.set2 {D:Type}{sz:Nat}{P:List Value→D→Prop}{ds:List D}(r:Rec sz P cs ds){d:D}(hc:c.length=sz)(hp:P c d):∀{j:Nat},j<ds.length→Rec sz P (zn cs (j*sz) c) (ds.set j d):=by
 induction r with
 |nil=>intro j hj;cases hj
 | @cons c1 cs d1 ds hl hp1 hr ih=>
  intro j hj;cases j with
  |zero=>
   have e:zn (c1++cs) (0*sz) c=c++cs:=by
    unfold zn;rw [Nat.zero_mul,List.take_zero,List.nil_append,Nat.zero_add,hc,←hl,List.drop_left]
   rw [e];exact .cons hc hp hr
  |succ j=>
   have e:zn (c1++cs) ((j+1)*sz) c=c1++zn cs (j*sz) c:=by
    have e2:(j+1)*sz=c1.length+j*sz:=by rw [Nat.succ_mul,hl,Nat.add_comm]
    unfold zn;rw [e2,List.take_append,List.take_of_length_le zo,Nat.add_sub_cancel_left,List.append_assoc,Nat.add_assoc,List.drop_append,List.drop_eq_nil_of_le zo,List.nil_append,Nat.add_sub_cancel_left]
   rw [e];exact .cons hl hp1 (ih (by simpa using hj))
theorem gG {o:Nat}(h:cs.all nu=true)(hc:c.all nu=true):(zn cs o c).all nu=true:=by
 rw [List.all_eq_true] at*
 intro x hx;unfold zn at hx;rcases List.mem_append.1 hx with hx|hx
 ·exact h x (List.mem_of_mem_take hx)
 rcases List.mem_append.1 hx with hx|hx
 ·exact hc x hx
 exact h x (List.mem_of_mem_drop hx)
section
variable {D:Type}{sz:Nat}{P:List Value→D→HF→Nat→Prop}{h h':HF}{n n' b:Nat}{ds:List D}
theorem OR.go (o:OR sz P h n b ds)(kp:KP sz P)(t:Tr n h n' h')(e:h' b=h b):OR sz P h' n' b ds:=by
 obtain ⟨hb,C,e1,h1,h2,h3⟩:=o;exact ⟨by have:=t.1;omega,C,e1,e.trans h1,h2,h3.mono fun _ _ r=>kp.t r t⟩
theorem OR.ext (o:OR sz P h n b ds)(kp:KP sz P)(x:Ext n h h')(hn:n≤n'):OR sz P h' n' b ds:=o.go kp ⟨hn,fun c hc=>.inl (x c hc)⟩ (x b o.1)
theorem OR.xx (o:OR sz P h n b ds)(kp:KP sz P)(t:Tx n h n' h'):OR sz P h' n' b ds:=o.ext kp t.2 t.1
theorem OR.as {ds':List D}(o:OR sz P h n b ds)(e:ds=ds'):OR sz P h n b ds':=e▸o
theorem OR.get {d:D}(o:OR sz P h n b ds)(hj:ds[j]?=some d)(ho:off=j*sz):∃c,P c d h n∧c.length=sz∧At h b off c:=by
 obtain ⟨hb,C,e1,h1,h2,h3⟩:=o;obtain ⟨c,g1,g2,g3,g4⟩:=h3.get hj;subst ho;exact ⟨c,g2,g1,⟨_,C,h1,rfl,zo,by rw [g1];exact g3⟩⟩
theorem OR.set {d:D}{C:List Value}(o:OR sz P h n b ds)(kp:KP sz P)(hC:h b=some (.row C e))(hj:j<ds.length)(r:P c d h n)(h1:h' b=some (.row (zn C (j*sz) c) e))(ho:Only b h h'):OR sz P h' n b (ds.set j d)∧Sto b h h':=by
 obtain ⟨hb,C2,e2,h2,h3,h4⟩:=o;rw [hC] at h2;cases h2;have hs:Sto b h h':=⟨ho,_,_,hC,h3⟩;have t:Tr n h n h':=Tr.s hs (Tr.refl _ _);obtain ⟨c1,c2,_⟩:=kp.c r;exact ⟨⟨hb,_,_,h1,gG h3 c2,(h4.mono fun _ _ r=>kp.t r t).set2 c1 (kp.t r t) hj⟩,hs⟩
theorem OR.sl (o:OR sz P h n b ds)(hl:len=ds.length)(hc:len≤cap):RS sz P h n (.slice (some ⟨b,0,none⟩) len cap) ds:=by
 obtain ⟨hb,C,e1,h1,h2,h3⟩:=o;have:=h3.len;subst hl;exact ⟨C,.at_ hb h1 rfl hc zo (by rw [List.drop_zero,List.take_of_length_le zo]),h3⟩
theorem OR.fill {z:List Value}{d:D}(hb:b<3*n)(h1:h b=some (.row (rep L z) e))(kp:KP sz P)(hz:P z d h n):OR sz P h n b (List.replicate L d):=by
 refine ⟨hb,_,_,h1,?_,?_⟩
 ·clear h1;induction L with
  |zero=>rfl
  |succ L ih=>show List.all (z++rep L z) nu=true;rw [List.all_append,ih,(kp.c hz).2.1];rfl
 clear h1;induction L with
 |zero=>exact .nil
 |succ L ih=>exact .cons (kp.c hz).1 hz ih
end
def Ty1 (h:HF)(b:Nat)(e:TypeId):Prop:=∃C,h b=some (.row C e)
def intP (c:List Value)(z:Int)(h:HF)(n:Nat):Prop:=∃b a l k,c=[.bool b,.slice a l k]∧IW h n b a l k z
theorem intP.kp:KP 2 intP:=⟨fun ⟨b,a,l,k,e,i⟩ t=>⟨b,a,l,k,e,i.t t⟩,fun ⟨b,a,l,k,e,i⟩=>by subst e;exact ⟨rfl,rfl,rfl⟩⟩
theorem ratP.kp:KP 4 ratP:=⟨fun ⟨b,a,l,k,d,e,f,g,e1,i,j⟩ t=>⟨b,a,l,k,d,e,f,g,e1,i.t t,j.t t⟩,fun ⟨b,a,l,k,d,e,f,g,e1,i,j⟩=>by subst e1;exact ⟨rfl,rfl,rfl⟩⟩
theorem numP.kp:KP 4 numP:=⟨fun ⟨b,a,l,k,d,e,f,g,e1,i,j⟩ t=>⟨b,a,l,k,d,e,f,g,e1,i.t t,j.t t⟩,fun ⟨b,a,l,k,d,e,f,g,e1,i,j⟩=>by subst e1;exact ⟨rfl,rfl,rfl⟩⟩
abbrev OZ (h:HF)(n b:Nat)(zs:List Int):Prop:=OR 2 intP h n b zs
theorem OR.el {h:HF}{n b i:Nat}{T:Nat→Nat→Int}(o:OZ h n b (tabL N T))(hi:i<N)(hj:j<N):∃b1 a1 l1 c1,At h b (i*N*2+j*2) [.bool b1,.slice a1 l1 c1]∧IW h n b1 a1 l1 c1 (T i j):=by
 obtain ⟨c,⟨b1,a1,l1,c1,rfl,i1⟩,_,a⟩:=o.get (wo hi hj) (off:=i*N*2+j*2) (by rw [Nat.add_mul]);exact ⟨b1,a1,l1,c1,a,i1⟩
section
variable {X:CtxF}{n0:Nat}{ops r:List Oper}{ms:List Nat}{i m:Nat}{t:TF}{h:HF}{n:Nat}{w:List Nat}{al ld:List (Nat×Nat)}{ef:List (Nat×HF×List Nat)}{Q:SV→Prop}{o:Oper}{d:Tmp}
theorem sSx {a:Operand}{b sz:Nat}(c':List Value)(hb:h b=some (.row c e))(k:∀h',h' b=some (.row c' e)→Sto b h h'→EO X ops r ⟨t,h',n,addW n0 [b] w⟩ Q)(hw:zh ops t o=true:=by exact rfl)(hd:o.dst=none:=by exact rfl)(ho:o.op=.store ty a x:=by exact rfl)(hi:X.E.inf ty=some (sz,bt,z):=by exact rfl)(ha:evF t a=.pointer (some ⟨b,off,none⟩):=by exact rfl)(hu:c.all nu=true:=by exact rfl)(hx:zr (evF t x)=cs:=by exact rfl)(hs:cs.length=sz:=by exact rfl)(h1:ones cs=true:=by exact rfl)(hl:off+sz≤c.length:=by exact zb)(hsp:zn c off cs=c':=by exact rfl)(hX:X.n0=n0:=by exact rfl):EO X ops (o::r) ⟨t,h,n,w⟩ Q:=by
 subst hsp hx;rw [qY hw (by rw [hd];rfl) (by rw [ho];rfl) (by rw [ho];exact xA hi ha hs h1 hb hl),hd,hX];exact k _ (ze _ _ _) ⟨fun c hc=>zj hc,_,_,hb,hu⟩
theorem dSx {a:Operand}{b sz:Nat}(c':List Value)(hb:h b=some (.row c e))(k:∀h',h' b=some (.row c' e)→Sto b h h'→ED X ops r ms (i+1) ⟨⟨t,h',n,addW n0 [b] w⟩,al,ld,(i,h,[b])::ef⟩ Q)(hw:zh ops t o=true:=by exact rfl)(hd:o.dst=none:=by exact rfl)(ho:o.op=.store ty a x:=by exact rfl)(hi:X.E.inf ty=some (sz,bt,z):=by exact rfl)(ha:evF t a=.pointer (some ⟨b,off,none⟩):=by exact rfl)(hu:c.all nu=true:=by exact rfl)(hx:zr (evF t x)=cs:=by exact rfl)(hs:cs.length=sz:=by exact rfl)(h1:ones cs=true:=by exact rfl)(hl:off+sz≤c.length:=by exact zb)(hsp:zn c off cs=c':=by exact rfl)(hX:X.n0=n0:=by exact rfl)(g1:yN m ef=true:=by exact rfl)(g2:xI m al=true:=by exact rfl)(g3:zV m [b] ld=true:=by exact rfl):ED X ops (o::r) (m::ms) i ⟨⟨t,h,n,w⟩,al,ld,ef⟩ Q:=by
 subst hsp hx;refine mr hw (by rw [hd];rfl) (by rw [ho];rfl) (by rw [ho];exact xA hi ha hs h1 hb hl) g1 g2 g3 (Nat.le_refl _) ?_;rw [hd,hX];exact k _ (ze _ _ _) ⟨fun c hc=>zj hc,_,_,hb,hu⟩
theorem dZ {D:Type}{sz:Nat}{P:List Value→D→HF→Nat→Prop}{a:Operand}{b:Nat}{zs:List D}{q:D}(c:List Value)(og:OR sz P h n b zs)(kp:KP sz P)(hj:j<zs.length)(hoff:off=j*sz)(i1:P c q h n)(k:∀h',OR sz P h' n b (zs.set j q)→Sto b h h'→(∀e,Ty1 h b e→Ty1 h' b e)→ED X ops r ms (i+1) ⟨⟨t,h',n,addW n0 [b] w⟩,al,ld,(i,h,[b])::ef⟩ Q)(hw:zh ops t o=true:=by exact rfl)(hd:o.dst=none:=by exact rfl)(ho:o.op=.store ty a x:=by exact rfl)(hi:X.E.inf ty=some (sz,bt,z):=by exact rfl)(ha:evF t a=.pointer (some ⟨b,off,none⟩):=by exact rfl)(hx:zr (evF t x)=c:=by exact rfl)(h1:yN m ef=true:=by exact rfl)(h2:xI m al=true:=by exact rfl)(h3:zV m [b] ld=true:=by exact rfl)(hX:X.n0=n0:=by exact rfl):ED X ops (o::r) (m::ms) i ⟨⟨t,h,n,w⟩,al,ld,ef⟩ Q:=by
 have og':=og;obtain ⟨hb,C,e,y1,y2,y3⟩:=og;have hlen:=y3.len;obtain ⟨c1,c2,c3⟩:=kp.c i1;have hsz:j*sz+sz≤zs.length*sz:=by
  have:=Nat.mul_le_mul_right sz (show j+1≤zs.length from hj);rw [Nat.add_mul,Nat.one_mul] at this;exact this
 subst hoff;refine mr hw (by rw [hd];rfl) (by rw [ho];rfl) (by rw [ho];exact xA hi ha (by rw [hx];exact c1) (by rw [hx];exact c3) y1 zo) h1 h2 h3 (Nat.le_refl _) ?_;rw [hd,hx,hX];have s:=og'.set (h':=upd h b (some (.row (zn C (j*sz) c) e))) kp y1 hj i1 (ze _ _ _) (fun c hc=>zj hc);exact k _ s.1 s.2 fun e2 ⟨C2,h2⟩=>⟨_,by rw [y1] at h2;cases h2;exact ze _ _ _⟩
end
end
section
variable {h' h0:HF}{b bt cap j len n0:Nat}{v v0 z z2:Value}{T:List Nat}{c:List Value}{e e2 e3 sT ty xT:TypeId}{x y:Operand}{ik:IntKind}{ji:Int}
def BkOf (v:Value)(b:Nat):Prop:=∃o l c,v=.slice (some ⟨b,o,none⟩) l c
def GroU (h:HF)(n:Nat)(v:Value)(T:List Nat):Prop:=Gro h 0 n 164 1 v T.length (u64s T)
structure AU (h0:HF)(n0:Nat)(v0:Value)(h:HF)(n:Nat)(w:List Nat)(v:Value)(T:List Nat):Prop where
 hn:n0≤n
 keep:Keep v0 n0 h0 h
 hw:∀b∈w,BkOf v0 b
 g:GroU h n v T
 or:v=v0∨ya n0 v
 wd:WdD T
theorem AU.refl (g:GroU h0 n0 v0 T)(hT:WdD T):AU h0 n0 v0 h0 n0 [] v0 T:=⟨Nat.le_refl _,fun _ _ _=>rfl,fun b hb=>absurd hb List.not_mem_nil,g,Or.inl rfl,hT⟩
theorem AU.trans {h1 h2:HF}{n1 n2:Nat}{w1 w2:List Nat}{v1 v2:Value}{T1 T2:List Nat}(a:AU h0 n0 v0 h1 n1 w1 v1 T1)(b:AU h1 n1 v1 h2 n2 w2 v2 T2):AU h0 n0 v0 h2 n2 (addW n0 w2 w1) v2 T2:=by
 have hn:=a.hn;refine ⟨Nat.le_trans a.hn b.hn,fun k hk hne=>(b.keep k zo fun o l c e=>?_).trans (a.keep k hk hne),fun k hk=>?_,b.g,?_,b.wd⟩
 ·rcases a.or with h|h
  ·exact hne o l c (h▸e)
  rw [e] at h;have h:3*n0≤k:=h;omega
 ·rcases yF.1 hk with h|⟨h,h3⟩
  ·exact a.hw k h
  obtain ⟨o,l,c,e⟩:=b.hw k h;rcases a.or with h4|h4
  ·exact ⟨o,l,c,h4▸e⟩
  rw [e] at h4;have h4:3*n0≤k:=h4;omega
 rcases b.or with h|h
 ·rw [h];exact a.or
 right;cases v2 with
 |slice ad l c=>
  cases ad with
  |none=>trivial
  |some ad=>have h:3*n1≤ad.block:=h;show 3*n0≤ad.block;omega
 |_=>trivial
theorem AU.sl {h:HF}{n:Nat}{w:List Nat}{u:Value}(a:AU h0 n0 v0 h n w v T)(s:Sl h0 n0 1 u c)(ho:∀b,BkOf v0 b→Off b u):Sl h n 1 u c:=
 s.keep (fun ad l cap ev=>by
  have hb:=s.below;subst ev;refine a.keep ad.block hb fun o l' c' e=>?_;have:=ho ad.block ⟨o,l',c',e⟩;exact this rfl) a.hn
theorem AU.off {h:HF}{n:Nat}{w:List Nat}{u:Value}(a:AU h0 n0 v0 h n w v T)(s:Sl h0 n0 1 u c)(ho:∀b,BkOf v0 b→Off b u):∀b,BkOf v b→Off b u:=by
 rintro b ⟨o,l,k,rfl⟩;rcases a.or with e|hf
 ·exact ho b ⟨o,l,k,e.symm⟩
 have hf:3*n0≤b:=hf;exact s.below.off hf
theorem GroU.row {h:HF}{n:Nat}(g:GroU h n v T)(h0:T.length≠0):∃b,v=.slice (some ⟨b,0,none⟩) T.length T.length∧gro b=true∧b<3*n∧h b=some (.row (u64s T) 164):=by
 obtain ⟨b,h1,h2,_,h4,h5,_⟩:=Gro.inv2 g h0;exact ⟨b,h1,h2,h4,h5⟩
theorem AU.row {L:List Nat}{w:List Nat}(hgb:gro b=true)(hb:b<3*n0)(hx:ExtT n0 b h0 h')(hw:∀c∈w,c=b)(hr:h' b=some (.row (u64s L) 164))(hl:L.length=T.length)(hL:WdD L):AU h0 n0 (.slice (some ⟨b,0,none⟩) T.length T.length) h' n0 w (.slice (some ⟨b,0,none⟩) T.length T.length) L:=by
 refine ⟨Nat.le_refl _,fun k hk hne=>hx k hk fun e=>hne 0 T.length T.length (by rw [e]),fun c hc=>⟨0,T.length,T.length,by rw [hw c hc]⟩,?_,.inl rfl,hL⟩;rw [←hl];exact .at_ hgb zo hb hr (by rw [yg,Nat.mul_one]) (uJ _)
section
variable {X:CtxF}{ops r:List Oper}{t:TF}{h:HF}{n:Nat}{w:List Nat}{Q:SV→Prop}{o:Oper}{d:Tmp}
theorem ag {s:Operand}(a:AU h0 n0 v0 h n w (evF t s) T)(hX:X.n0=n0∧zh ops t o=true∧o.dst=some d∧zm X.nt (some d)=true∧o.op=.call {callee:=.builtin .append,args:=#[s,x],argTypes:=#[sT,xT]}∧(match X.E.und xT with|some (.int _)=>false|none=>false|_=>true)=true∧X.E.und sT=some (.slice 164)∧X.E.inf 164=some (1,8,z)∧(zr z).length=1)(hx:argS h 1 (evF t x) 1 (u64s [0]))(hb:T.length<1000000000)
  (k:∀v' h' w',AU h0 n0 v0 h' (n+1) w' v' (T++[0])→EO X ops r ⟨upd t d v',h',n+1,w'⟩ Q):EO X ops (o::r) ⟨t,h,n,w⟩ Q:=by
 obtain ⟨hX,hw,hd,hn,ho,hxT,hu,hi,hz⟩:=hX;obtain ⟨v',h',W,h2,h3,_,h5,h6,h7⟩:=wt (lo:=0) hu hi hz ⟨Nat.le_refl _,zo⟩ a.g hx (Nat.le_refl _) zo (by rw [yg];rfl) (uJ _) (Nat.zero_le _);refine yJ ⟨hw,hd,hn,ho,hxT⟩ h2 ?_;rw [hX];refine k _ _ _ (a.trans ⟨zo,h5,?_,?_,.inr h7,?_⟩)
 ·intro b hb;have hg:Gro h 0 n 164 1 (evF t s) T.length (u64s T):=a.g;have hv:∃v,v=evF t s:=⟨_,rfl⟩;obtain ⟨v,hv⟩:=hv;rw [←hv] at hg h2 ⊢;generalize hTl:T.length=tl at hg;generalize hTc:u64s T=tc at hg;cases hg with
  |nil=>
   have e:=append_nil (n:=n) hu hi hz (Nat.le_refl _) zo hx (Nat.le_refl _) zo;rw [e] at h2;injection h2 with h2
   injection h2 with _ _ _ h2
   rw [←h2] at hb;exact absurd hb List.not_mem_nil
  |at_ hg hlo hb2 hr hl ho=>
   have e:=qx (n:=n) hu hi hz (Nat.le_refl _) zo hx (Nat.le_refl _) zo hg hr hl (xZ ho (uJ _)) (by rw [yg];rfl);rw [e] at h2;injection h2 with h2
   injection h2 with _ _ _ h2
   rw [←h2] at hb;rw [List.mem_singleton.1 hb];exact ⟨_,_,_,rfl⟩
 ·unfold GroU;rw [List.length_append,show u64s (T++[0])=u64s T++u64s [0] from by unfold u64s;rw [List.map_append]];exact h3
 exact WdD.snoc a.wd zd
theorem zhn {i:Operand}{o2:Oper}{a:Tmp}{bt2:Nat}(hw:zh ops t o=true∧o.dst=some a∧zm X.nt (some a)=true∧o.op=.indexAddr ty x i∧X.E.und ty=some (.slice e)∧X.E.inf e=some (1,bt,z)∧evF t x=.slice (some ⟨b,0,none⟩) len cap∧evF t i=.int ik ji∧ji=(j:Int))(hjl:j<len∧j<c.length)(hb:h b=some (.row c e3))
  (hw2:∀p,zh ops (upd t a p) o2=true)(hd2:o2.dst=none)(ho2:o2.op=.store e2 (.tmp a) y)(hi2:X.E.inf e2=some (1,bt2,z2))(hy:∀p,zr (evF (upd t a p) y)=[v])(h1:ones [v]=true)
  (k:∀p,EO X ops r ⟨upd t a p,upd h b (some (.row (c.set j v) e3)),n,addW X.n0 [b] w⟩ Q):EO X ops (o::o2::r) ⟨t,h,n,w⟩ Q:=by
 obtain ⟨hw,hd,hn,ho,hu,hi,hx,hj,hji⟩:=hw;subst hji;refine yR ⟨hw,hd,hn,ho,hu,hi,hx,hj⟩ zo ?_;have he:=xA (E:=X.E) (t:=upd t a (.pointer (some ⟨b,0+(j:Int).toNat*1,none⟩))) (h:=h) (n:=n) (a:=.tmp a) (x:=y) (b:=b) (off:=0+(j:Int).toNat*1) hi2 (ze _ _ _) (by rw [hy];rfl) (by rw [hy];exact h1) hb (by rw [Int.toNat_natCast];omega);rw [qY (hw2 _) (by rw [hd2];rfl) (by rw [ho2];rfl) (by rw [ho2];exact he),hd2];rw [hy,Int.toNat_natCast,Nat.mul_one,Nat.zero_add,splice_one _ _ _ hjl.2];exact k _
end
end
section
variable {h' h0:HF}{B P U V c' l n' n0:Nat}{v v0:Value}{T Z:List Nat}{e:TypeId}
theorem AU.ext {h:HF}{n:Nat}{w:List Nat}(a:AU h0 n0 v0 h n w v T)(x:Ext n h h')(hn:n≤n'):AU h0 n0 v0 h' n' w v T:=
 ⟨Nat.le_trans a.hn hn,fun b hb hne=>(x b (by have:=a.hn;omega)).trans (a.keep b hb hne),a.hw,Gro.ext a.g x hn,a.or,a.wd⟩
theorem zfr {c x s d:Nat}(h1:V+c*P=U)(h2:s+B*c'=d+c)(h3:x+d*P=V+s*P):x+c'*(P*B)=U:=by
 have e1:(s+B*c')*P=(d+c)*P:=by rw [h2]
 rw [Nat.add_mul,Nat.add_mul] at e1;rw [show c'*(P*B)=B*c'*P from by rw [Nat.mul_comm P B,←Nat.mul_assoc,Nat.mul_comm c' B]];omega
theorem zjs {P S X L:List Nat}{w c:Nat}(hL:L.length=Z.length)(hV:wv L+c*18446744073709551616^Z.length=wv Z+wv X*w):wv (P++(L++S))+c*18446744073709551616^(P.length+Z.length)=wv (P++(Z++S))+wv X*(18446744073709551616^P.length*w):=by
 rw [qC,qC,qC P,qC Z,hL,Nat.pow_add];generalize 18446744073709551616^Z.length=B at*
 generalize 18446744073709551616^P.length=C at*
 have e:=congrArg (C* ·) hV;simp only [Nat.mul_add] at e ⊢;rw [show c*(C*B)=C*(c*B) from Nat.mul_left_comm _ _ _,show wv X*(C*w)=C*(wv X*w) from Nat.mul_left_comm _ _ _];omega
section
variable {X:CtxF}{ops r:List Oper}{t:TF}{h:HF}{n:Nat}{w:List Nat}{Q:SV→Prop}{o:Oper}{d:Tmp}
theorem mkW (cs:List Value){c:Nat}(hw:zh ops t o=true∧o.dst=some d∧zm X.nt (some d)=true∧cls o.op=2∧mkE X.E o.op (evF t)=some ⟨cs,e,false,some (l,c)⟩)
  (k:∀h',h' (3*n+2)=some (.row cs e)→Ext n h h'→EO X ops r ⟨upd t d (.slice (some ⟨3*n+2,0,none⟩) l c),h',n+1,w⟩ Q):EO X ops (o::r) ⟨t,h,n,w⟩ Q:=by obtain ⟨hw,hd,hn,hc,hm⟩:=hw;exact wn ⟨hw,hd,hn,hc,hm⟩ (k _ (ze _ _ _) (Ext.upd zo))
end
theorem rF (k:Nat){h:HF}{n:Nat}{vT:Value}{X Y:List Nat}{aX aY:Option Addr}{lX cX lY cY:Nat}(g:GroU h n vT T)(hT:WdD T)(hX:Sl h n 1 (.slice aX lX cX) (u64s X))(hY:Sl h n 1 (.slice aY lY cY) (u64s Y))(wX:WdD X)(wY:WdD Y)(oX:∀b,BkOf vT b→Off b (.slice aX lX cX))(oY:∀b,BkOf vT b→Off b (.slice aY lY cY))(hb:T.length<1000000∧X.length<1000000∧Y.length<1000000)(h40:X.length<40∨Y.length<40):
  CF (cal (k+3)) 245 [vT,.slice aX lX cX,.slice aY lY cY] h n fun v h' n' w=>∃T',AU h n vT h' n' w v T'∧wv T'=wv T+wv X*wv Y∧T'.length≤max T.length (X.length+Y.length)+40:=by
 refine zk (fn:=Tryz.f245) R4 ?_;have e1:=hX.lenW;have e2:=hY.lenW;subst e1 e2;refine zN ?_;refine sh ?_;refine zM ?_;refine st_I (ik:=.i64) (a:=(X.length:Int)) R5 ?_;refine zM ?_;refine st_I (ik:=.i64) (a:=(Y.length:Int)) R5 ?_;refine pb R6 ?_;simp only [yL,xN,zO,xD];refine yo (α:=(Option Addr×Nat×List Nat)×(Option Addr×Nat×List Nat)) (fun z=>[(0,vT),(1,.slice z.1.1 z.1.2.2.length z.1.2.1),(2,.slice z.2.1 z.2.2.2.length z.2.2.1)]) (fun z h' n' w=>h=h'∧n=n'∧w=[]∧Sl h n 1 (.slice z.1.1 z.1.2.2.length z.1.2.1) (u64s z.1.2.2)∧Sl h n 1 (.slice z.2.1 z.2.2.2.length z.2.2.1) (u64s z.2.2.2)∧WdD z.1.2.2∧WdD z.2.2.2∧(∀b,BkOf vT b→Off b (.slice z.1.1 z.1.2.2.length z.1.2.1))∧(∀b,BkOf vT b→Off b (.slice z.2.1 z.2.2.2.length z.2.2.1))∧z.2.2.2.length<40∧z.1.2.2.length<1000000∧wv z.1.2.2*wv z.2.2.2=wv X*wv Y∧z.1.2.2.length+z.2.2.2.length=X.length+Y.length) ?_ ?_
 ·by_cases hlt:X.length<Y.length
  ·rw [zc (by show Value.bool _=_;rw [decide_eq_true zo])];refine zN ?_;refine sh ?_;exact zK ((aY,cY,Y),(aX,cX,X)) ⟨rfl,rfl,rfl,trivial⟩ ⟨rfl,rfl,rfl,hY,hX,wY,wX,oY,oX,by show X.length<40;omega,by show Y.length<_;omega,Nat.mul_comm _ _,Nat.add_comm _ _⟩
  rw [za (by show Value.bool _=_;rw [decide_eq_false zo])];refine zN ?_;exact zK ((aX,cX,X),(aY,cY,Y)) ⟨rfl,rfl,rfl,trivial⟩ ⟨rfl,rfl,rfl,hX,hY,wX,wY,oX,oY,by show Y.length<40;omega,by show X.length<_;omega,rfl,rfl⟩
 rintro ⟨⟨a,c,A⟩,⟨a',c',C⟩⟩ t _ _ _ ⟨rfl,rfl,rfl,hA,hC,wA,wC,oA,oC,hC40,hAl,hprod,hsum⟩;simp only at hA hC wA wC oA oC hC40 hAl hprod hsum;rw [←hprod,←hsum];rw [←hsum] at*
 have hTl:=hb.1;clear hprod hsum h40 hb hX hY wX wY oX oY;refine Zf ?_;refine st_I (ik:=.i64) (a:=(C.length:Int)) R5 ?_;refine sh ?_;refine Za ?_;refine zQ (α:=Value×List Nat) (fun z=>[(0,z.1),(1,.slice a A.length c),(2,.slice a' C.length c')]) (fun z h' n' w=>AU h n vT h' n' w z.1 z.2∧wv z.2=wv T∧z.2.length≤max T.length (A.length+C.length)) (fun z=>A.length+C.length-z.2.length) (vT,T) ⟨rfl,rfl,rfl,trivial⟩ ⟨.refl g hT,rfl,Nat.le_max_left _ _⟩ (by show A.length+C.length-T.length<LL;unfold LL;omega) ?_;rintro ⟨v1,T1⟩ t h1 n1 w1 ⟨a1,hv1,hl1⟩;simp only at a1 hv1 hl1;obtain ⟨ad1,rfl,_⟩:=Gro.shape a1.g;refine Zf ?_;refine st_I (ik:=.i64) (a:=(T1.length:Int)) R5 ?_;refine zM ?_;refine st_I (ik:=.i64) (a:=(A.length:Int)) R5 ?_;refine zM ?_;refine st_I (ik:=.i64) (a:=(C.length:Int)) R5 ?_;by_cases hlt:T1.length<A.length+C.length
 ·refine sh ?_;refine Zb ?_;refine zM ?_;refine mkW [.int .u64 0] (l:=1) (c:=1) R5 ?_;intro h2 p2 x2;refine ag (a1.ext x2 zs) R9 (yy p2 R2) zo ?_;intro v3 h3 w3 a3;refine zA (v:=v3) R5 ?_;refine zN ?_;refine goOn (v3,T1++[0]) (by show _-(T1++[0]).length<_-T1.length;rw [List.length_append,List.length_singleton];omega) ⟨rfl,rfl,rfl,trivial⟩ ⟨a3,?_,?_⟩
  ·simp only;rw [rH,Nat.mul_zero,Nat.add_zero,hv1]
  simp only;rw [List.length_append,List.length_singleton];omega
 refine sh ?_;refine Za ?_;refine zM ?_;refine st_I (ik:=.i64) (a:=(C.length:Int)) R5 ?_;refine sh ?_;refine zQ (α:=Value×List Nat×Nat) (fun z=>[(0,z.1),(1,.slice a A.length c),(36,.slice a' C.length c'),(37,.int .i64 (C.length:Int)),(38,.int .i64 (z.2.2:Int))]) (fun z h' n' w=>AU h n vT h' n' w z.1 z.2.1∧wv z.2.1=wv T+wv A*wv (C.take z.2.2)∧A.length+C.length≤z.2.1.length∧z.2.1.length≤max T.length (A.length+C.length)+z.2.2∧z.2.2≤C.length) (fun z=>C.length-z.2.2) (.slice ad1 T1.length T1.length,T1,0) ⟨rfl,rfl,rfl,rfl,rfl,trivial⟩ ⟨a1,by simp [wv,dv] at hv1 ⊢;exact hv1,by show _≤T1.length;omega,hl1,Nat.zero_le _⟩ (by show C.length-0<LL;unfold LL;omega) ?_;clear hv1 hl1 a1 hlt;rintro ⟨v1,T1,i⟩ t h1 n1 w1 ⟨a1,hv1,hm1,hl1,hi⟩;simp only at a1 hv1 hm1 hl1 hi;refine zN ?_;by_cases hiC:i=C.length
 ·subst hiC;rw [List.take_length] at hv1;obtain ⟨ad1,rfl,_⟩:=Gro.shape a1.g;refine sh ?_;refine Za ?_;refine sh ?_;exact retH _ ⟨rfl,(zi rfl),rfl⟩ ⟨T1,a1,hv1,zo⟩
 obtain ⟨y,hy⟩:∃x,C[i]?=some x:=⟨C[i]'zo,List.getElem?_eq_getElem zo⟩;have hyl:=wC.get hy;obtain ⟨b,rfl,hgb,hbn,hrow⟩:=GroU.row a1.g zo;obtain ⟨P,Z,S,hT1,hP,hZ⟩:∃P Z S,T1=P++(Z++S)∧P.length=i∧Z.length=A.length:=⟨T1.take i,(T1.drop i).take A.length,(T1.drop i).drop A.length,by rw [List.take_append_drop,List.take_append_drop],by rw [List.length_take];omega,by rw [List.length_take,List.length_drop];omega⟩;have hA1:=a1.sl hA oA;have hC1:=a1.sl hC oC;have hoff:=a1.off hA oA b ⟨_,_,_,rfl⟩;refine sh ?_;refine Zb ?_;repeat refine zR ?_
 refine xi (f:=fun d:Nat=>Value.int .u64 (d:Int)) (j:=i) R7 hC1 R2 hy (fun _=>rfl) R4 fun _=>?_;refine sh ?_;repeat refine zR ?_
 refine sU i (i+A.length) R9 rfl rfl zo ?_;rw [show 0+i*1=P.length from zo,show i+A.length-i=Z.length from zo];repeat refine zR ?_
 have hap:=mD k (h:=h1) (n:=n1) (b:=b) (cZ:=T1.length-i) (P:=P) (Z:=Z) (S:=S) hbn (by rw [←hT1];exact hrow) zo (fun d hd=>a1.wd d (by rw [hT1];simp [hd])) hA1 wA hoff hZ zo hyl;refine zu _ R5 hap ?_;rintro _ h2 n2 w2 ⟨L,cc,rfl,hcc,⟨hw2,rfl,hx2,hr2⟩,hLd,hLl,hLv⟩;have hl2:(P++(L++S)).length=T1.length:=by rw [hT1];simp [hLl]
 have a2:=a1.trans (AU.row hgb hbn hx2 hw2 hr2 hl2 (WdD.append (fun d hd=>a1.wd d (by rw [hT1];simp [hd])) (WdD.append hLd (fun d hd=>a1.wd d (by rw [hT1];simp [hd])))));have hV2:=zjs (S:=S) (P:=P) hLl hLv;rw [←hT1,hP,hZ,hv1] at hV2;generalize hT2:P++(L++S)=T2 at a2 hV2 hl2;have hV2:wv T2+cc*18446744073709551616^(i+A.length)=wv T+wv A*wv (C.take (i+1)):=by
  rw [xa hy,Nat.mul_add,hV2];omega
 clear hv1;refine sh ?_;refine Zc ?_;refine st_I (ik:=.i64) (a:=(A.length:Int)) R5 ?_;refine sh ?_;rw [←hl2];refine zQ (α:=Value×List Nat×Nat×Nat) (fun z=>[(0,z.1),(1,.slice a A.length c),(9,.int .u64 (z.2.2.1:Int)),(10,.int .i64 (z.2.2.2:Int)),(36,.slice a' C.length c'),(37,.int .i64 (C.length:Int)),(38,.int .i64 (i:Int))]) (fun z h' n' w=>AU h n vT h' n' w z.1 z.2.1∧wv z.2.1+z.2.2.1*18446744073709551616^z.2.2.2=wv T+wv A*wv (C.take (i+1))∧A.length+C.length≤z.2.1.length∧(z.2.1.length≤max T.length (A.length+C.length)+i∨(z.2.1.length≤max T.length (A.length+C.length)+i+1∧z.2.2.1=0))∧z.2.2.1<18446744073709551616∧z.2.2.2≤z.2.1.length) (fun z=>(z.2.1.length-z.2.2.2)+(if z.2.2.1=0 then 0 else 1)) (.slice (some ⟨b,0,none⟩) T2.length T2.length,T2,cc,i+A.length) ⟨rfl,rfl,rfl,by show Value.int .i64 _=Value.int .i64 _;rfl,rfl,rfl,rfl,trivial⟩ ⟨by rw [hl2];exact a2,hV2,by show _≤T2.length;omega,.inl (by show T2.length≤_;omega),hcc,by show i+A.length≤T2.length;omega⟩ (by show (T2.length-(i+A.length))+_<LL;unfold LL;split<;>omega) ?_;clear a1 a2 hV2 hT2 hr2 hx2 hw2 hrow hgb hbn hA1 hC1 hoff hap hl2 hLv hLl hLd hT1;rintro ⟨v3,T3,c3,at3⟩ t h3 n3 w3 ⟨a3,hV3,hm3,hl3,hc3,ha3⟩;simp only at a3 hV3 hm3 hl3 hc3 ha3;refine zN ?_;by_cases hc0:c3=0
 ·subst hc0;rw [Nat.zero_mul,Nat.add_zero] at hV3;refine sh ?_;refine Za ?_;refine sh ?_;refine goOn (v3,T3,i+1) (by show C.length-(i+1)<C.length-i;omega) ⟨rfl,rfl,rfl,rfl,rfl,trivial⟩ ⟨a3,hV3,hm3,by show T3.length≤_+(i+1);omega,by show i+1≤_;omega⟩
 have hl3:T3.length≤max T.length (A.length+C.length)+i:=zo;refine sh ?_;refine Zb ?_;obtain ⟨ad3,rfl,_⟩:=Gro.shape a3.g;refine Zc ?_;refine st_I (ik:=.i64) (a:=(T3.length:Int)) R5 ?_;refine ij R6 ?_;simp only [yL,xN,zO,xD];refine yo (α:=Value×List Nat) (fun z=>[(0,z.1),(1,.slice a A.length c),(9,.int .u64 (c3:Int)),(10,.int .i64 (at3:Int)),(36,.slice a' C.length c'),(37,.int .i64 (C.length:Int)),(38,.int .i64 (i:Int))]) (fun z h' n' w=>AU h n vT h' n' w z.1 z.2∧wv z.2=wv T3∧at3<z.2.length∧A.length+C.length≤z.2.length∧(z.2.length=T3.length∨(z.2.length=T3.length+1∧at3=T3.length∧z.2[at3]?=some 0))) ?_ ?_
 ·by_cases hat:at3=T3.length
  ·rw [zc (by show Value.bool _=_;rw [decide_eq_true zo])];refine Zf ?_;refine mkW [.int .u64 0] (l:=1) (c:=1) R5 ?_;intro h4 p4 x4;refine ag (a3.ext x4 zs) R9 (yy p4 R2) zo ?_;intro v5 h5 w5 a5;refine zA (v:=v5) R5 ?_;refine zN ?_;refine zK (v5,T3++[0]) ⟨rfl,rfl,rfl,rfl,rfl,rfl,rfl,trivial⟩ ⟨a5,?_,?_,?_,.inr ⟨?_,hat,?_⟩⟩
   ·simp only;rw [rH,Nat.mul_zero,Nat.add_zero]
   ·simp only;rw [List.length_append,List.length_singleton];omega
   ·simp only;rw [List.length_append,List.length_singleton];omega
   ·simp only;rw [List.length_append,List.length_singleton]
   simp only;rw [hat,List.getElem?_append_right (Nat.le_refl _),Nat.sub_self];rfl
  rw [za (by show Value.bool _=_;rw [decide_eq_false zo])];refine zN ?_;exact zK (_,T3) ⟨rfl,rfl,rfl,rfl,rfl,rfl,rfl,trivial⟩ ⟨a3,rfl,by show at3<T3.length;omega,hm3,.inl rfl⟩
 rintro ⟨v4,T4⟩ t h4 n4 w4 ⟨a4,hV4,ha4,hm4,hl4⟩;simp only at a4 hV4 ha4 hm4 hl4;rw [←hV4] at hV3;obtain ⟨b,rfl,hgb,hbn,hrow⟩:=GroU.row a4.g zo;obtain ⟨d,hd⟩:∃x,T4[at3]?=some x:=⟨T4[at3]'zo,List.getElem?_eq_getElem zo⟩;have hdl:=a4.wd.get hd;refine Ze ?_;refine xi (f:=fun d:Nat=>Value.int .u64 (d:Int)) (j:=at3) R7 (Gro.sl a4.g) R2 hd (fun _=>rfl) R4 fun _=>?_;repeat refine zR ?_
 refine mN (x:=d) (y:=c3) (c:=0) R5 zd ?_;obtain ⟨s,hs⟩:∃x,x=(d+c3+0)%18446744073709551616:=⟨_,rfl⟩;obtain ⟨c5,hc5⟩:∃x,x=(d+c3+0)/18446744073709551616:=⟨_,rfl⟩;rw [←hs,←hc5];repeat refine zR ?_
 refine zhn (j:=at3) (v:=.int .u64 (s:Int)) R9 ⟨ha4,by rw [yg];exact ha4⟩ hrow (fun _=>rfl) rfl rfl rfl (fun _=>rfl) rfl fun _=>?_;rw [uX];refine sh ?_;refine sh ?_;have hset:(T4.set at3 s).length=T4.length:=List.length_set;have a5:=a4.trans (AU.row (h':=upd h4 b (some (.row (u64s (T4.set at3 s)) 164))) (w:=[b]) (L:=T4.set at3 s) hgb hbn (fun k hk hne=>zj hne) (fun c hc=>List.mem_singleton.1 hc) (ze _ _ _) hset (WdD.set a4.wd zo));refine goOn (_,T4.set at3 s,c5,at3+1) ?_ ⟨rfl,rfl,rfl,rfl,rfl,rfl,rfl,trivial⟩ ⟨a5,?_,?_,?_,?_,?_⟩
 ·show ((T4.set at3 s).length-(at3+1))+(if c5=0 then 0 else 1)<(T3.length-at3)+(if c3=0 then 0 else 1);rw [hset,if_neg hc0];rcases hl4 with hl4|⟨hl4,ha5,hd0⟩
  ·split<;>omega
  rw [hd] at hd0;injection hd0 with hd0
  rw [if_pos zo];omega
 ·simp only;rw [Nat.pow_succ];exact zfr hV3 zo (zbu s hd)
 ·show _≤(T4.set at3 s).length;omega
 ·show (T4.set at3 s).length≤_∨_;rw [hset];rcases hl4 with hl4|⟨hl4,ha5,hd0⟩
  ·exact .inl zo
  rw [hd] at hd0;injection hd0 with hd0
  exact .inr ⟨zo,by show c5=0;omega⟩
 ·show c5<_;omega
 show at3+1≤(T4.set at3 s).length;omega
end
section
variable {bS l1 l2 len lo m m' n n' n0 p:Nat}{h h' h0:HF}{e:TypeId}{v v0:Value}{T w:List Nat}{a1 a2:Option Addr}
def SumO (lo:Nat)(h:HF)(n bS:Nat)(z:Int)(m:Nat):Prop:=∃vP vN P N e,3*lo≤bS∧bS<3*n∧gro bS=false∧h bS=some (.row [vP,vN] e)∧Gro h lo n 164 1 vP P.length (u64s P)∧Gro h lo n 164 1 vN N.length (u64s N)∧WdD P∧WdD N∧(∀b,BkOf vP b→¬BkOf vN b)∧z=(wv P:Int)-wv N∧P.length≤m∧N.length≤m
theorem SumO.ext {z:Int}(s:SumO lo h n bS z m)(x:Ext n h h')(hn:n≤n'):SumO lo h' n' bS z m:=by
 obtain ⟨vP,vN,P,N,e,h1,h2,h3,h4,h5,h6,h7⟩:=s;exact ⟨vP,vN,P,N,e,h1,zo,h3,(x _ h2).trans h4,h5.ext x hn,h6.ext x hn,h7⟩
theorem SumO.start (h1:3*lo≤bS)(h2:bS<3*n)(h3:gro bS=false)(h4:h bS=some (.row [.slice none 0 0,.slice none 0 0] e)):SumO lo h n bS 0 0:=
 ⟨_,_,[],[],e,h1,h2,h3,h4,.nil,.nil,WdD.nil,WdD.nil,fun b ⟨_,_,_,h⟩=>(by cases h),rfl,Nat.le_refl _,Nat.le_refl _⟩
theorem AU.gro (a:AU h0 n0 v0 h n w v T)(hlo:lo≤n0)(hv:∀b,BkOf v0 b→3*lo≤b):Gro h lo n 164 1 v T.length (u64s T):=by
 have g:Gro h 0 n 164 1 v T.length (u64s T):=a.g;have ho:=a.or;generalize T.length=tl at g;generalize u64s T=tc at g;cases g with
 |nil=>exact .nil
 | @at_ b _ _ hg _ hb hr hl ho2=>
  refine .at_ hg ?_ hb hr hl ho2;rcases ho with e|hf
  ·exact hv _ ⟨_,_,_,e.symm⟩
  have hf:3*n0≤b:=hf;omega
theorem Gro.bk {C:List Value}(g:Gro h lo n e 1 v len C):∀b,BkOf v b→3*lo≤b∧b<3*n∧gro b=true:=by
 rintro b ⟨o,l,c,e⟩;cases g with
 |nil=>cases e
 |at_ hg hlo hb hr hl ho=>cases e;exact ⟨hlo,hb,hg⟩
theorem Gro.weak {C:List Value}(g:Gro h lo n e 1 v len C):Gro h 0 n e 1 v len C:=by
 cases g with
 |nil=>exact .nil
 |at_ hg hlo hb hr hl ho=>exact .at_ hg zo hb hr hl ho
theorem Gro.beside {u:Value}{C:List Value}(g:Gro h0 lo n0 e 1 u len C)(hk:Keep v n0 h0 h)(hd:∀b,BkOf u b→¬BkOf v b)(hn:n0≤n):Gro h lo n e 1 u len C:=by
 cases g with
 |nil=>exact .nil
 |at_ hg hlo hb hr hl ho=>exact .at_ hg hlo zo ((hk _ hb fun o l c e=>hd _ ⟨_,_,_,rfl⟩ ⟨o,l,c,e⟩).trans hr) hl ho
theorem SumO.mono {z:Int}(s:SumO lo h n bS z m)(hm:m≤m'):SumO lo h n bS z m':=by
 obtain ⟨vP,vN,P,N,e,h1,h2,h3,h4,h5,h6,h7,h8,h9,h10,h11,h12⟩:=s;exact ⟨vP,vN,P,N,e,h1,h2,h3,h4,h5,h6,h7,h8,h9,h10,zo,zo⟩
theorem Gro.off {C:List Value}{x:Option BF}(g:Gro h lo n e 1 v len C)(hb:gro bS=false):Gro (upd h bS x) lo n e 1 v len C:=by
 cases g with
 |nil=>exact .nil
 |at_ hg hlo hbn hr hl ho=>exact .at_ hg hlo hbn ((zj fun e=>by rw [e,hb] at hg;cases hg).trans hr) hl ho
theorem zhe {x y:Int}(h:(decide (x<0)==decide (y<0))=true):(p:Int)-n+x*y=((p+x.natAbs*y.natAbs:Nat):Int)-n:=by
 have e:x*y=((x.natAbs*y.natAbs:Nat):Int):=by
  rw [Int.natCast_mul];by_cases hx:x<0
  ·have hy:y<0:=by
    rw [decide_eq_true hx] at h;exact of_decide_eq_true (by simpa using h)
   rw [show (x.natAbs:Int)= -x by omega,show (y.natAbs:Int)= -y by omega,Int.neg_mul_neg]
  have hy:¬y<0:=by
   rw [decide_eq_false hx] at h;exact of_decide_eq_false (by simpa using h)
  rw [show (x.natAbs:Int)=x by omega,show (y.natAbs:Int)=y by omega]
 rw [e];omega
theorem zhf {x y:Int}(h:¬(decide (x<0)==decide (y<0))=true):(p:Int)-n+x*y=(p:Int)-((n+x.natAbs*y.natAbs:Nat):Int):=by
 have e:x*y= -((x.natAbs*y.natAbs:Nat):Int):=by
  rw [Int.natCast_mul];by_cases hx:x<0
  ·have hy:¬y<0:=fun hy=>h (by rw [decide_eq_true hx,decide_eq_true hy];rfl);rw [show (x.natAbs:Int)= -x by omega,show (y.natAbs:Int)=y by omega,Int.neg_mul,Int.neg_neg]
  have hy:y<0:=by
   refine Classical.byContradiction fun hy=>h (by rw [decide_eq_false hx,decide_eq_false hy];rfl)
  rw [show (x.natAbs:Int)=x by omega,show (y.natAbs:Int)= -y by omega,Int.mul_neg,Int.neg_neg]
 rw [e];omega
theorem sr (k:Nat){z:Int}{b1 b2:Bool}{c1 c2:Nat}{x y:Int}(hs:SumO lo h n bS z m)(hlo:lo≤n)(ix:IW h lo b1 a1 l1 c1 x)(iy:IW h lo b2 a2 l2 c2 y)(sx:l1<40)(sy:l2<40)(hm:m≤1000):
  CF (cal (k+4)) 229 [.pointer (some ⟨bS,0,none⟩),.agg #[.bool b1,.slice a1 l1 c1],.agg #[.bool b2,.slice a2 l2 c2]] h n fun _ h' n' w=>SumO lo h' n' bS (z+x*y) (m+130)∧n≤n'∧Ext lo h h'∧(x*y=0∨bS∈w)∧∀c∈w,3*lo≤c:=by
 obtain ⟨rfl,X,sX,nX,vX⟩:=ix;obtain ⟨rfl,Y,sY,nY,vY⟩:=iy;have eX:=sX.lenW;have eY:=sY.lenW;subst eX eY;refine ks (fn:=Tryz.f229) R4 ?_;have triv:x*y=0→SumO lo h n bS (z+x*y) (m+130):=fun e=>by rw [e,Int.add_zero];exact hs.mono zo
 refine zN ?_;refine tF [.bool (decide (x<0)),.slice a1 X.length c1] R5 ?_;intro h5 p5 x5;refine tF [.bool (decide (y<0)),.slice a2 Y.length c2] R5 ?_;intro h6 p6 x6;have q5:=(x6 (3*n+2) zo).trans p5;have x06:Ext n h h6:=x5.trans x6 (Nat.le_succ n);have done:∀(t:TF),x*y=0→(sc .ret=true∧∃vs,resF env ⟨t,h6,n+1+1,[]⟩ (Tryz.f229).results.toList=some vs∧(SumO lo h6 (n+1+1) bS (z+x*y) (m+130)∧n≤n+1+1∧Ext lo h h6∧(x*y=0∨bS∈([]:List Nat))∧∀c∈([]:List Nat),3*lo≤c)∧(True→SumO lo h n bS (z+x*y) (m+130)∧n≤n∧Ext lo h h∧(x*y=0∨bS∈([]:List Nat))∧∀c∈([]:List Nat),3*lo≤c)):=fun t e=>
  ⟨rfl,[],rfl,⟨(triv e).ext x06 zo,zo,x06.mono hlo,.inl e,fun c hc=>absurd hc List.not_mem_nil⟩,fun _=>⟨triv e,Nat.le_refl _,Ext.refl _ _,.inl e,fun c hc=>absurd hc List.not_mem_nil⟩⟩
 refine Zf ?_;refine zg R6 q5 R2 ?_;refine zM ?_;by_cases hX0:X.length=0
 ·have hx:x=0:=by rw [List.length_eq_zero_iff.1 hX0] at vX;have:wv []=0:=rfl;omega
  refine sh ?_;refine Zb ?_;exact done _ (by rw [hx,Int.zero_mul])
 repeat refine zR ?_
 refine zg R6 p6 R2 ?_;refine zM ?_;by_cases hY0:Y.length=0
 ·have hy:y=0:=by rw [List.length_eq_zero_iff.1 hY0] at vY;have:wv []=0:=rfl;omega
  refine sh ?_;refine Zb ?_;exact done _ (by rw [hy,Int.mul_zero])
 refine sh ?_;refine Za ?_;refine zM ?_;refine zg R6 q5 R2 ?_;refine zM ?_;refine zg R6 p6 R2 ?_;refine st_B (a:= !(decide (x<0)==decide (y<0))) R5 ?_;obtain ⟨vP,vN,P,N,e,h1,h2,h3,h4,gP,gN,wP,wN,hd,hz,lP,lN⟩:=hs;have q6:=(x06 bS h2).trans h4;have sX6:=sX.ext (x06.mono hlo) (show lo≤n+1+1 by omega);have sY6:=sY.ext (x06.mono hlo) (show lo≤n+1+1 by omega);have ofar:∀{v:Value} {len:Nat} {C:List Value} {e:TypeId} (_:Gro h lo n e 1 v len C) (a:Option Addr) (l c:Nat) {cs:List Value} (_:Sl h lo 1 (.slice a l c) cs),∀b,BkOf v b→Off b (.slice a l c):=fun g a l c _ s b hb=>s.below.off (g.bk b hb).1;clear done triv;refine zN ?_;by_cases hsg:(decide (x<0)==decide (y<0))=true
 ·rw [za (by show Value.bool _=_;rw [hsg];rfl)];refine zl [0,0,2,6,14,0,32,0,128,510,1023,2047,4095] rfl ?_;refine dr_P R5 ?_;refine dr_P R5 ?_;refine dr_P R5 ?_;refine dr_P R5 ?_;refine zL R6 (zF rfl q6 R2) R2 ?_;refine dr_P R5 ?_;refine zL R6 (zF rfl q5 R2) R2 ?_;refine dr_P R5 ?_;refine zL R6 (zF rfl p6 R2) R2 ?_;refine yK _ R7 (rF k (gP.weak.ext x06 zo) wP sX6 sY6 nX.1 nY.1 (ofar gP a1 X.length c1 sX) (ofar gP a2 Y.length c2 sY) zo zo) ?_;rintro v7 h7 n7 w7 ⟨T7,a7,e7,l7⟩;obtain ⟨ad7,rfl,_⟩:=Gro.shape a7.g;have hn7:=a7.hn;refine ⟨rfl,hn7,?_⟩;have q7:h7 bS=some (.row [vP,vN] e):=(a7.keep bS zo fun o l c e8=>by
   have:=(gP.bk bS ⟨o,l,c,e8⟩).2.2;rw [h3] at this;cases this).trans q6
  refine dr_P R5 ?_;refine dr_P R5 ?_;refine mr (W:=[bS]) rfl rfl rfl (xA (h:=h7) (n:=n7) rfl rfl rfl rfl q7 zb) rfl rfl rfl (Nat.le_refl _) ?_;rw [uU];refine zN ?_;have g7:=a7.gro (lo:=lo) zo fun b hb=>(gP.bk b hb).1;have g8:=g7.off h3 (x:=some (.row [.slice ad7 T7.length T7.length,vN] e));have go8:=((gN.ext x06 zo).beside (n:=n7) a7.keep (fun b hb1 hb2=>hd b hb2 hb1) hn7).off h3 (x:=some (.row [.slice ad7 T7.length T7.length,vN] e));have hmem:bS∈addW n [bS] (addW n w7 []):=uT h2 (List.mem_singleton.2 rfl);refine ⟨rfl,[],rfl,⟨⟨_,vN,T7,N,e,h1,zo,h3,ze _ _ _,g8,go8,a7.wd,wN,?_,?_,zo,zo⟩,by show n≤n7;omega,fun b hb=>?_,.inr hmem,fun c hc=>?_⟩,fun hw=>?_⟩
  ·intro b hb1 hb2;have q1:=gN.bk b hb2;have hor:Value.slice ad7 T7.length T7.length=vP∨ya (n+1+1) (Value.slice ad7 T7.length T7.length):=a7.or;rcases hor with e8|hf
   ·exact hd b (e8▸hb1) hb2
   obtain ⟨o,l,c,e8⟩:=hb1;have e8:Value.slice ad7 T7.length T7.length=.slice (some ⟨b,o,none⟩) l c:=e8;rw [e8] at hf;have hf:3*(n+1+1)≤b:=hf;omega
  ·rw [e7,vX,vY,hz];exact zhe hsg
  ·refine (zj zo).trans ((a7.keep b zo fun o l c e8=>?_).trans (x06 b zo));have:=(gP.bk b ⟨o,l,c,e8⟩).1;omega
  ·rcases xS _ _ c hc with ⟨h8,_⟩|h8
   ·rw [List.mem_singleton.1 h8];exact h1
   rcases xS _ _ c h8 with ⟨h9,_⟩|h9
   ·exact (gP.bk c (a7.hw c h9)).1
   exact absurd h9 List.not_mem_nil
  have hw:addW n [bS] (addW n w7 [])=[]:=hw;rw [hw] at hmem;exact absurd hmem List.not_mem_nil
 rw [zc (by show Value.bool _=_;rw [Bool.eq_false_iff.2 hsg];rfl)];refine zl [0,0,2,6,14,0,32,0,128,510,1023,2047,4095] rfl ?_;refine dr_P R5 ?_;refine dr_P R5 ?_;refine dr_P R5 ?_;refine dr_P R5 ?_;refine zL R6 (zF rfl q6 R2) R2 ?_;refine dr_P R5 ?_;refine zL R6 (zF rfl q5 R2) R2 ?_;refine dr_P R5 ?_;refine zL R6 (zF rfl p6 R2) R2 ?_;refine yK _ R7 (rF k (gN.weak.ext x06 zo) wN sX6 sY6 nX.1 nY.1 (ofar gN a1 X.length c1 sX) (ofar gN a2 Y.length c2 sY) zo zo) ?_;rintro v7 h7 n7 w7 ⟨T7,a7,e7,l7⟩;obtain ⟨ad7,rfl,_⟩:=Gro.shape a7.g;have hn7:=a7.hn;refine ⟨rfl,hn7,?_⟩;have q7:h7 bS=some (.row [vP,vN] e):=(a7.keep bS zo fun o l c e8=>by
  have:=(gN.bk bS ⟨o,l,c,e8⟩).2.2;rw [h3] at this;cases this).trans q6
 refine dr_P R5 ?_;refine dr_P R5 ?_;refine mr (W:=[bS]) rfl rfl rfl (xA (h:=h7) (n:=n7) rfl rfl rfl rfl q7 zb) rfl rfl rfl (Nat.le_refl _) ?_;rw [uU];refine zN ?_;have g7:=a7.gro (lo:=lo) zo fun b hb=>(gN.bk b hb).1;have g8:=g7.off h3 (x:=some (.row [vP,.slice ad7 T7.length T7.length] e));have go8:=((gP.ext x06 zo).beside (n:=n7) a7.keep (hd) hn7).off h3 (x:=some (.row [vP,.slice ad7 T7.length T7.length] e));have hmem:bS∈addW n [bS] (addW n w7 []):=uT h2 (List.mem_singleton.2 rfl);refine ⟨rfl,[],rfl,⟨⟨vP,_,P,T7,e,h1,zo,h3,ze _ _ _,go8,g8,wP,a7.wd,?_,?_,zo,zo⟩,by show n≤n7;omega,fun b hb=>?_,.inr hmem,fun c hc=>?_⟩,fun hw=>?_⟩
 ·intro b hb1 hb2;have q1:=gP.bk b hb1;have hor:Value.slice ad7 T7.length T7.length=vN∨ya (n+1+1) (Value.slice ad7 T7.length T7.length):=a7.or;rcases hor with e8|hf
  ·exact hd b hb1 (e8▸hb2)
  obtain ⟨o,l,c,e8⟩:=hb2;have e8:Value.slice ad7 T7.length T7.length=.slice (some ⟨b,o,none⟩) l c:=e8;rw [e8] at hf;have hf:3*(n+1+1)≤b:=hf;omega
 ·rw [e7,vX,vY,hz];exact zhf hsg
 ·refine (zj zo).trans ((a7.keep b zo fun o l c e8=>?_).trans (x06 b zo));have:=(gN.bk b ⟨o,l,c,e8⟩).1;omega
 ·rcases xS _ _ c hc with ⟨h8,_⟩|h8
  ·rw [List.mem_singleton.1 h8];exact h1
  rcases xS _ _ c h8 with ⟨h9,_⟩|h9
  ·exact (gN.bk c (a7.hw c h9)).1
  exact absurd h9 List.not_mem_nil
 have hw:addW n [bS] (addW n w7 [])=[]:=hw;rw [hw] at hmem;exact absurd hmem List.not_mem_nil
end
section
theorem zia (k:Nat)(h:HF)(n:Nat)(b:Bool)(a:Option Addr)(l c:Nat):CF (cal (k+2)) 153 [.agg #[.bool b,.slice a l c]] h n fun v h' n' w=>v=.agg #[.bool (!b&&decide (0<l)),.slice a l c]∧n≤n'∧w=[]∧Ext n h h':=by
 refine zk (fn:=Tryz.f153) R4 ?_;refine zN ?_;refine tF [.bool b,.slice a l c] R5 ?_;intro h1 p1 x1;refine we [.bool false,.slice none 0 0] R6 ?_;intro h2 p2 x2;have q1:=(x2 (3*n+2) zo).trans p1;refine Zf ?_;refine zg R6 q1 R2 ?_;refine st_B (a:= !b) R5 ?_;refine zM ?_;refine zg R6 q1 R2 ?_;refine zu _ R5 (sV k h2 (n+1+1) (!b) a l c) ?_;rintro _ h3 n3 _ ⟨rfl,rfl,rfl,x3⟩;have q2:=(x3 (3*(n+1)+2) zo).trans p2;refine pz [.bool (!b&&decide (0<l)),.slice a l c] R5 q2 R3 zb rfl (by show 3*n≤_;omega) ?_;intro h4 p4 o4;refine zN ?_;exact yP R5 p4 rfl ⟨rfl,by show n≤n+1+1+1;omega,rfl,Ext.st ((x1.trans x2 (Nat.le_succ n)).trans x3 zo) o4 zo⟩
theorem pE (k:Nat){lo:Nat}{h:HF}{n bS m:Nat}{z:Int}{b1 b2:Bool}{a1 a2:Option Addr}{l1 c1 l2 c2:Nat}{x y:Int}(hs:SumO lo h n bS z m)(hlo:lo≤n)(ix:IW h lo b1 a1 l1 c1 x)(iy:IW h lo b2 a2 l2 c2 y)(sx:l1<40)(sy:l2<40)(hm:m≤1000):
  CF (cal (k+5)) 230 [.pointer (some ⟨bS,0,none⟩),.agg #[.bool b1,.slice a1 l1 c1],.agg #[.bool b2,.slice a2 l2 c2]] h n fun _ h' n' w=>SumO lo h' n' bS (z-x*y) (m+130)∧n≤n'∧Ext lo h h'∧(x*y=0∨bS∈w)∧∀c∈w,3*lo≤c:=by
 have hz:x=0↔l1=0:=by rw [ix.2.zero];omega
 have eb:=ix.1;have i3:∀{h2:HF} (_:Ext lo h h2),IW h2 lo (!b1&&decide (0<l1)) a1 l1 c1 (-x):=fun x2=>⟨by
  rw [eb];by_cases h0:l1=0
  ·rw [h0,hz.2 h0];rfl
  ·have:x≠0:=fun e=>h0 (hz.1 e);rw [decide_eq_true (show 0<l1 by omega),Bool.and_true];by_cases hx:x<0
   ·rw [decide_eq_true hx,decide_eq_false (show ¬ -x<0 by omega)];rfl
   ·rw [decide_eq_false hx,decide_eq_true (show -x<0 by omega)];rfl,by rw [Int.natAbs_neg];exact ix.2.ext x2 (Nat.le_refl _)⟩
 clear eb hz;refine ks (fn:=Tryz.f230) R4 ?_;refine zN ?_;refine tF [.bool b1,.slice a1 l1 c1] R5 ?_;intro h5 p5 x5;refine tF [.bool b2,.slice a2 l2 c2] R5 ?_;intro h6 p6 x6;have q5:=(x6 (3*n+2) zo).trans p5;have x06:Ext n h h6:=x5.trans x6 (Nat.le_succ n);refine zN ?_;refine zl [0,0,2,0,15] rfl ?_;refine dr_P R5 ?_;refine zL R6 (zB R2 q5 rfl zb rfl) R2 ?_;refine yK _ R7 (zia (k+2) h6 (n+1+1) b1 a1 l1 c1) ?_;rintro _ h7 n7 _ ⟨rfl,y7,rfl,x7⟩;refine ⟨rfl,y7,?_⟩;have x07:Ext n h h7:=x06.trans x7 zo;refine zL R6 (zB R2 p6 rfl zb rfl) R2 ?_;refine yK _ R7 (sr k (hs.ext x07 zo) zo (i3 (x07.mono hlo)) (iy.ext (x07.mono hlo) (Nat.le_refl _)) sx sy hm) ?_;rintro v8 h8 n8 w8 ⟨s8,y8,x8,hb8,hw8⟩;refine ⟨rfl,y8,?_⟩;rw [uU];have e8:z+ -x*y=z-x*y:=by rw [Int.neg_mul,Int.sub_eq_add_neg]
 rw [e8] at s8;have hbS:bS<3*n:=by
  obtain ⟨_,_,_,_,_,_,h2,_⟩:=hs;exact h2
 have hw9:x*y=0∨bS∈addW n w8 []:=by
  rcases hb8 with h0|h0
  ·left;rw [Int.neg_mul] at h0;omega
  exact .inr (uT hbS h0)
 refine ⟨rfl,[],rfl,⟨s8,by show n≤n8;omega,(x07.mono hlo).trans x8 (Nat.le_refl _),hw9,fun c hc=>?_⟩,fun hw=>?_⟩
 ·rcases xS _ _ c hc with ⟨h9,_⟩|h9
  ·exact hw8 c h9
  exact absurd h9 List.not_mem_nil
 have hw:addW n w8 []=[]:=hw;rw [hw] at hw9;have h0:x*y=0:=hw9.resolve_right List.not_mem_nil;exact ⟨by rw [h0,Int.sub_zero];exact hs.mono zo,Nat.le_refl _,Ext.refl _ _,.inl h0,fun c hc=>absurd hc List.not_mem_nil⟩
end
section
theorem oQ (k:Nat){h:HF}{n:Nat}{a1 a2:Option Addr}{l1 c1 l2 c2:Nat}{A C:List Nat}(hA:Sl h n 1 (.slice a1 l1 c1) (u64s A))(hC:Sl h n 1 (.slice a2 l2 c2) (u64s C))(nA:NW A)(nC:NW C)(hb:A.length<100000000)(hle:wv C≤wv A):
  CF (cal (k+2)) 246 [.slice a1 l1 c1,.slice a2 l2 c2] h n fun v h' n' w=>∃L,ResW n h v h' n' w L∧wv L=wv A-wv C:=by
 refine zk (fn:=Tryz.f246) R4 ?_;have e1:=hA.lenW;have e2:=hC.lenW;subst e1 e2;have hlen:C.length≤A.length:=by
  rcases Nat.lt_or_ge A.length C.length with hl|hl
  ·have:=nA.len_lt nC hl;omega
  exact hl
 refine zN ?_;refine sh ?_;refine zM ?_;refine st_I (ik:=.i64) (a:=(A.length:Int)) R5 ?_;refine wE (len:=A.length) (cap:=A.length) R9 zo ?_;rw [show zr (Value.int .u64 0)=[Value.int .u64 0] from rfl,rU];generalize hh:upd h (3*n+2) _=h1;have hr1:∃e,h1 (3*n+2)=some (.row (u64s (List.replicate A.length 0)) e):=⟨_,by rw [←hh,ze]⟩;obtain ⟨e,hr1⟩:=hr1;have hx1:Ext n h h1:=by rw [←hh];exact Ext.upd zo
 clear hh;refine sh ?_;refine Zc ?_;refine zdl (m:=A.length) (cs:=u64s A) rfl rfl rfl rfl rfl rfl rfl (uB (hA.ext hx1 (Nat.le_succ n))) (Nat.le_refl _) hr1 (by rw [yg,yg,List.length_replicate];omega) (uJ _) (by show 3*n≤3*n+2;omega) ?_;rw [List.drop_eq_nil_of_le (by rw [yg,yg,List.length_replicate];omega),List.append_nil];generalize hh:upd h1 (3*n+2) _=h2;have hr2:h2 (3*n+2)=some (.row (u64s A) e):=by rw [←hh,ze]
 have hx2:Ext n h h2:=fun b hb=>by rw [←hh,zj zo];exact hx1 b hb
 clear hh;refine sh ?_;refine Zc ?_;refine zu _ R5 (eO k (n:=n+1) (cX:=A.length) zo hr2 (Nat.le_refl _) nA.1 (hC.ext hx2 (Nat.le_succ n)) nC.1 (hC.below.off zo) hlen zo hle) ?_;rintro _ h3 n3 w3 ⟨L,⟨hw3,rfl,hx3,hr3⟩,hLd,hLl,hLv⟩;try simp only [eH]
 rw [yc (w:=[]) fun y hy=>by rw [hw3 y hy];show 3*n≤3*n+2;omega];refine sh ?_;refine zM ?_;have htr:=sE k (h:=h3) (n:=n+1) (a:=some ⟨3*n+2,0,none⟩) (len:=A.length) (cap:=A.length) (l:=L) zo (fun _ e=>by injection e with e;rw [←e]) (gI zo hr3 hLl);refine zu _ R5 htr ?_;rintro _ _ _ _ ⟨rfl,rfl,rfl,rfl,hs⟩;refine sh ?_;obtain ⟨t1,t2⟩:=pi hLd;exact retH _ ⟨rfl,(zi rfl),rfl⟩ ⟨_,⟨rfl,Nat.le_succ n,fun c hc=>(hx3 c zo zo).trans (hx2 c hc),hs,t1⟩,by rw [t2];omega⟩
end
section
variable {bS len lo m n:Nat}{h:HF}{v:Value}{e:TypeId}
theorem Gro.form {C:List Value}(g:Gro h lo n e 1 v len C):∃a,v=.slice a len len∧(∀ad,a=some ad→ad.spot=none):=by
 cases g with
 |nil=>exact ⟨none,rfl,fun ad h=>by cases h⟩
 |at_ hg hlo hb hr hl ho=>exact ⟨_,rfl,fun ad h=>by injection h with h;rw [←h]⟩
theorem zf1 (k:Nat){z:Int}(hs:SumO lo h n bS z m)(hm:m≤10000):CX (cal (k+4)) 231 [.pointer (some ⟨bS,0,none⟩)] h n (IV z):=by
 obtain ⟨vP,vN,P,N,e,h1,h2,h3,h4,gP,gN,wP,wN,hd,hz,lP,lN⟩:=hs;obtain ⟨aP,rfl,sp⟩:=gP.form;obtain ⟨aN,rfl,sn⟩:=gN.form;refine zk (fn:=Tryz.f231) R4 ?_;refine zN ?_;refine we [.bool false,.slice none 0 0] R6 ?_;intro h5 p5 x5;have q4:=(x5 bS h2).trans h4;have sP:=gP.sl.ext x5 (Nat.le_succ n);have sN:=gN.sl.ext x5 (Nat.le_succ n);obtain ⟨nP,eP⟩:=pi wP;obtain ⟨nN,eN⟩:=pi wN;have tP:=wg P;have tN:=wg N;refine zN ?_;refine zl [0,1,3,7,15,0,32,96,224,511,1023,2047] rfl ?_;refine dr_P R5 ?_;refine dr_P R5 ?_;refine dr_P R5 ?_;refine zL R6 (zF rfl q4 R2) R2 ?_;refine yK _ R7 (sE (k+2) (l:=P) zo sp sP) ?_;rintro _ _ _ _ ⟨rfl,rfl,rfl,rfl,zP⟩;refine ⟨rfl,Nat.le_refl _,?_⟩;refine dr_P R5 ?_;refine dr_P R5 ?_;refine dr_P R5 ?_;refine zL R6 (zF rfl q4 R2) R2 ?_;refine yK _ R7 (sE (k+2) (l:=N) zo sn sN) ?_;rintro _ _ _ _ ⟨rfl,rfl,rfl,rfl,zNg⟩;refine ⟨rfl,Nat.le_refl _,?_⟩;refine dr_S R5 ?_;refine dr_S R5 ?_;rw [uU];refine zN ?_;refine Zc ?_;refine z8 _ R5 (sk k zP zNg nP nN zo) ?_;rintro _ rfl;rw [eP,eN];by_cases hle:wv N≤wv P
 ·have hc:0≤cmpZ (wv P) (wv N):=by unfold cmpZ;split<;>(try split)<;>omega
  refine sh ?_;refine Zb ?_;refine Zc ?_;refine zu _ R5 (oQ (k+1) zP zNg nP nN zo zo) ?_;rintro v6 h6 n6 _ ⟨L,⟨rfl,y6,x6,s6,nL⟩,e6⟩;obtain ⟨a6,l6,c6,rfl,_⟩:=s6.len;refine zu _ R5 (sV (k+2) h6 n6 false a6 l6 c6) ?_;rintro _ h7 n7 _ ⟨rfl,rfl,rfl,x7⟩;have q7:=(x7 (3*n+2) zo).trans ((x6 (3*n+2) zo).trans p5);refine pz [.bool false,.slice a6 l6 c6] R5 q7 R3 zb rfl (by show 3*n≤_;omega) ?_;intro h8 p8 o8;refine zN ?_;refine yP R5 p8 rfl ⟨rfl,by show n≤n6+1;omega,Ext.st ((x5.trans x6 (Nat.le_succ n)).trans x7 zo) o8 zo,_,_,_,_,rfl,?_,?_⟩
  ·rw [decide_eq_false zo]
  exact WW.only (cs:=[.bool false,.slice none 0 0]) ⟨L,s6.ext x7 (Nat.le_succ n6),nL,zo⟩ q7 rfl o8
 have hc:cmpZ (wv P) (wv N)<0:=by unfold cmpZ;split<;>(try split)<;>omega
 refine sh ?_;refine Za ?_;refine Zc ?_;refine zu _ R5 (oQ (k+1) zNg zP nN nP zo zo) ?_;rintro v6 h6 n6 _ ⟨L,⟨rfl,y6,x6,s6,nL⟩,e6⟩;obtain ⟨a6,l6,c6,rfl,_⟩:=s6.len;refine zu _ R5 (sV (k+2) h6 n6 true a6 l6 c6) ?_;rintro _ h7 n7 _ ⟨rfl,rfl,rfl,x7⟩;have hl6:0<l6:=by
  have:=s6.lenW;subst this;refine Nat.pos_of_ne_zero fun h0=>?_;rw [List.length_eq_zero_iff.1 h0] at e6;have:wv []=0:=rfl;omega
 rw [decide_eq_true hl6];have q7:=(x7 (3*n+2) zo).trans ((x6 (3*n+2) zo).trans p5);refine pz [.bool true,.slice a6 l6 c6] R5 q7 R3 zb rfl (by show 3*n≤_;omega) ?_;intro h8 p8 o8;refine zN ?_;refine yP R5 p8 rfl ⟨rfl,by show n≤n6+1;omega,Ext.st ((x5.trans x6 (Nat.le_succ n)).trans x7 zo) o8 zo,_,_,_,_,rfl,?_,?_⟩
 ·rw [decide_eq_true zo]
 exact WW.only (cs:=[.bool false,.slice none 0 0]) ⟨L,s6.ext x7 (Nat.le_succ n6),nL,zo⟩ q7 rfl o8
end
section
variable {N b be bt i j l m n p:Nat}{h:HF}{e:TypeId}{bf:Int}{a:Option Addr}
theorem sq9 (h:N≤3):N*N≤9:=Nat.mul_le_mul h h
theorem nW (hi:i<N):i*N+N≤N*N:=by
 have h:=Nat.mul_le_mul_right N (show i+1≤N from hi);rw [Nat.add_mul,Nat.one_mul] at h;exact h
theorem rowX (k:Nat){vS:Value}(hT:h bt=some (.row [.int .i64 (N:Int),.slice (some ⟨be,0,none⟩) (N*N) (N*N),vS] e))(hi:i<N)(hN:N≤3):CX (cal (k+1)) 204 [.pointer (some ⟨bt,0,none⟩),.int .i64 (i:Int)] h n fun v _ _=>v=.slice (some ⟨be,i*N*2,none⟩) N (N*N-i*N):=by
 have h9:=sq9 hN;have hr:=nW hi;have e1:(i:Int)*(N:Int)=((i*N:Nat):Int):=(Int.natCast_mul i N).symm;have e2:((i:Int)+1)*(N:Int)=((i*N+N:Nat):Int):=by rw [Int.add_mul,Int.one_mul,e1,Int.natCast_add]
 refine zk (fn:=Tryz.f204) R4 ?_;refine zG ?_;rw [xF rfl];refine zG ?_;refine st_mul rfl rfl rfl rfl rfl rfl (by rw [e1];omega) ?_;refine zG ?_;refine st_mul rfl rfl rfl rfl rfl rfl (by rw [e2];omega) ?_;refine sU (i*N) (i*N+N) R9 e1 e2 ⟨zo,zo,zo⟩ ?_;rw [Nat.add_sub_cancel_left];refine zq ?_;show Value.slice (some ⟨be,0+i*N*2,none⟩) N (N*N-i*N)=_;rw [Nat.zero_add]
def rowU (T:Nat→Nat→Int)(i p:Nat)(bf:Int)(j:Nat):Nat→Nat→Int:=fun a b=>if a=i∧b<j then (T p p*T i b-T i p*T p b).tdiv bf else T a b
theorem kP {T:Nat→Nat→Int}:rowU T i p bf 0=T:=by
 funext a b;unfold rowU;rw [if_neg zo]
theorem pm {T:Nat→Nat→Int}{a:Nat}(h:a≠i∨j≤b):rowU T i p bf j a b=T a b:=by
 unfold rowU;rw [if_neg zo]
theorem pR {T:Nat→Nat→Int}:updT (rowU T i p bf j) i j ((T p p*T i j-T i p*T p j).tdiv bf)=rowU T i p bf (j+1):=by
 funext a b;unfold updT rowU;by_cases h:a=i∧b=j
 ·rw [if_pos h,if_pos zo,h.2]
 rw [if_neg h];by_cases h2:a=i∧b<j
 ·rw [if_pos h2,if_pos zo]
 rw [if_neg h2,if_neg zo]
theorem rf {T:Nat→Nat→Int}(h:T i j=0)(h':T i p=0∨T p j=0):rowU T i p bf j=rowU T i p bf (j+1):=by
 rw [←pR,h,Int.mul_zero];have e:(0-T i p*T p j).tdiv bf=0:=by
  rcases h' with h'|h'<;>rw [h']<;>simp
 rw [e];funext a b;unfold updT;split
 ·rename_i h2;rw [h2.1,h2.2,pm (.inr (Nat.le_refl _)),h]
 rfl
theorem WW.l39 {c:Nat}(i:WW h n a l c m)(hm:m<BW):l<40:=by
 obtain ⟨L,h1,h2,rfl⟩:=i;have:=h2.len39 hm;have:=h1.lenW;omega
theorem zfd (k:Nat){vS:Value}{T:Nat→Nat→Int}{sb:Bool}{ab:Option Addr}{lb cb:Nat}(hT:h bt=some (.row [.int .i64 (N:Int),.slice (some ⟨be,0,none⟩) (N*N) (N*N),vS] e))(hbt:bt<3*n∧bt≠be)(o:OZ h n be (tabL N T))(ib:IW h n sb ab lb cb bf)(hbf:bf≠0)(hbb:bf.natAbs<BW)(hi:i<N)(hp:p<N)(hip:p≠i)(hN:N≤3)
  (hb:∀a c,a<N→c<N→(T a c).natAbs<BW)(hx:∀j,j<N→(T p p*T i j-T i p*T p j).natAbs<BW):
  CF (cal (k+9)) 207 [.pointer (some ⟨bt,0,none⟩),.int .i64 (i:Int),.int .i64 (p:Int),.int .i64 (p:Int),.agg #[.bool sb,.slice ab lb cb]] h n fun _ h' n' w=>n≤n'∧ExtB n [be] h h'∧OZ h' n' be (tabL N (rowU T i p bf N))∧(∀c∈w,c=be):=by
 have h9:=sq9 hN;have hbe:=o.1;obtain ⟨hb1,hb2⟩:=hbt;refine ks (fn:=Tryz.f207) R4 ?_;refine zG ?_;refine sB [.bool sb,.slice ab lb cb] ?_;intro h1 p1 x1;refine zG ?_;refine sC (rowX _ ((x1 bt hb1).trans hT) hi hN) ?_;rintro _ h2 n2 rfl y2 x2;refine zG ?_;refine sC (rowX _ ((x2 bt zo).trans ((x1 bt hb1).trans hT)) hp hN) ?_;rintro _ h3 n3 rfl y3 x3;refine zG ?_;obtain ⟨b4,a4,l4,c4,t4,i4⟩:=o.el hi hp;refine sI rfl hp ?_;refine sL t4 hbe 0 ?_;refine sA ?_;intro h5 p5 x5;refine sS [.bool b4,.slice a4 l4 c4] ?_;intro h6 p6 o6;refine zG ?_;refine sF (α:=Nat) (fun z=>[(3,.int .i64 (p:Int)),(9,.pointer (some ⟨3*n+2,0,none⟩)),(10,.slice (some ⟨be,i*N*2,none⟩) N (N*N-i*N)),(11,.slice (some ⟨be,p*N*2,none⟩) N (N*N-p*N)),(12,.pointer (some ⟨3*n3+2,0,none⟩)),(26,.slice (some ⟨be,i*N*2,none⟩) N (N*N-i*N)),(27,.int .i64 (N:Int)),(28,.int .i64 (z:Int))]) (fun z h' n' w'=>n3+1≤n'∧ExtB (n3+1) [be] h6 h'∧Tr (n3+1) h6 n' h'∧OZ h' n' be (tabL N (rowU T i p bf z))∧z≤N∧(∀c∈w',c=be)∧(w'=[]→tabL N (rowU T i p bf z)=tabL N T)) (fun z=>N-z) 0 ⟨Nat.le_refl _,ExtB.refl _ _ _,Tr.refl _ _,(o.xx intP.kp zx).as (by rw [kP]),Nat.zero_le _,fun c hc=>absurd hc List.not_mem_nil,fun _=>by rw [kP]⟩ ?_;rintro j t h7 n7 w7 ⟨y7,Y7,T7,o7,hj,hw7,hz7⟩;have y7:n3+1≤n7:=y7;have o7:OZ h7 n7 be (tabL N (rowU T i p bf j)):=o7;have hj:j≤N:=hj;have T7:Tr (n3+1) h6 n7 h7:=T7;have j4:IW h7 n7 b4 a4 l4 c4 (T i p):=(i4.x zx:IW h6 (n3+1) b4 a4 l4 c4 (T i p)).t T7;have jb:IW h7 n7 sb ab lb cb bf:=(ib.x zx:IW h6 (n3+1) sb ab lb cb bf).t T7;refine zG ?_;by_cases q8:(j:Int)<(N:Int)
 ·have hjN:j<N:=zo;have hb7:=o7.1;have hTij:rowU T i p bf j i j=T i j:=pm (.inr (Nat.le_refl _));have hTpj:rowU T i p bf j p j=T p j:=pm (.inl hip);have hTpp:rowU T i p bf j p p=T p p:=pm (.inl hip);obtain ⟨b8,a8,l8,c8,t8,i8⟩:=o7.el hi hjN;obtain ⟨b9,a9,l9,c9,t9,i9⟩:=o7.el hp hjN;obtain ⟨b10,a10,l10,c10,t10,i10⟩:=o7.el hp hp;rw [hTij] at i8;rw [hTpj] at i9;rw [hTpp] at i10;refine zG ?_;refine sI rfl hjN ?_;refine sL t8 hb7 0 ?_;refine sA ?_;intro h11 p11 x11;refine zG ?_;refine sS [.bool b8,.slice a8 l8 c8] ?_;intro h12 p12 o12;refine zG ?_;refine sC (xH _ (i8.x zx)) ?_;rintro _ h13 n13 ⟨b13,rfl,bq13⟩ y13 x13;rcases bvs bq13 with ⟨rfl,q13⟩|⟨rfl,q13⟩
  ·refine zG ?_;refine sA ?_;intro h20 p20 x20;have s20:SumO n13 h20 (n13+1) (3*n13+2) 0 0:=SumO.start zo zo (yz n13) p20;have i20:IW h20 n13 b10 a10 l10 c10 (T p p):=(i10.x zx:IW h13 n13 b10 a10 l10 c10 (T p p)).ext x20 (Nat.le_refl _);have k20:IW h20 n13 b8 a8 l8 c8 (T i j):=(i8.x zx:IW h13 n13 b8 a8 l8 c8 (T i j)).ext x20 (Nat.le_refl _);have i21:IW h20 n13 b4 a4 l4 c4 (T i p):=(j4.x zx:IW h13 n13 b4 a4 l4 c4 (T i p)).ext x20 (Nat.le_refl _);have k21:IW h20 n13 b9 a9 l9 c9 (T p j):=(i9.x zx:IW h13 n13 b9 a9 l9 c9 (T p j)).ext x20 (Nat.le_refl _);refine zG ?_;refine zl [0,0,3,7,0,31] rfl ?_;refine zH ?_;refine dI rfl hp ?_;refine dL t10 hb7 0 ?_;refine zH ?_;refine yK _ R7 (sr _ s20 zs i20 k20 (i20.2.l39 (hb _ _ hp hp)) (k20.2.l39 (hb _ _ hi hjN)) zo) ?_;rintro _ h22 n22 w22 ⟨s22,y22,x22,_,hw22⟩;refine ⟨rfl,y22,?_⟩;rw [uU,yc (fun b hb=>by have:=hw22 b hb;show 3*n≤b;omega)];refine zG ?_;refine zl [0,0,0,6,14,31] rfl ?_;refine zH ?_;refine dI rfl hjN ?_;refine dL t9 hb7 0 ?_;refine yK _ R7 (pE _ s22 zo (i21.ext x22 (Nat.le_refl _)) (k21.ext x22 (Nat.le_refl _)) (i21.2.l39 (hb _ _ hi hp)) (k21.2.l39 (hb _ _ hp hjN)) zo) ?_;rintro _ h23 n23 w23 ⟨s23,y23,x23,_,hw23⟩;refine ⟨rfl,y23,?_⟩;rw [uU,yc (fun b hb=>by have:=hw23 b hb;show 3*n≤b;omega)];refine zG ?_;refine zl [0,0,0,0,12,31,63] rfl ?_;refine zH ?_;refine dC (zf1 _ s23 zo) ?_;rintro _ h24 n24 ⟨b24,a24,l24,c24,rfl,i24⟩ y24 x24;refine zH ?_;refine dC (quoX _ i24 (jb.x zx) (by rw [Int.zero_add];exact hx j hjN) hbb hbf) ?_;rintro _ h25 n25 ⟨b25,a25,l25,c25,rfl,i25⟩ y25 x25;refine zH ?_;refine dI rfl hjN ?_;refine dZ [.bool b25,.slice a25 l25 c25] (o7.xx intP.kp zx) intP.kp (by rw [yO];exact tK hi hjN) (Nat.add_mul _ _ _).symm ⟨_,_,_,_,rfl,i25⟩ ?_;intro h26 o26 S26 _;refine zG ?_;have hbn:addW n [be] w7=be::w7:=tD hbe;exact sK (j+1) ⟨zo,zy,T7.trans zt,o26.as (by rw [Int.zero_add,gW hi hjN,pR]),(by show j+1≤N;omega),fun c hc=>(by have hc:c∈addW n [be] w7:=hc;rw [hbn] at hc;rcases List.mem_cons.1 hc with hc|hc;exact hc;exact hw7 c hc),fun hw=>(by have hw:addW n [be] w7=[]:=hw;rw [hbn] at hw;cases hw)⟩
  refine zG ?_;refine sC (xH _ (j4.x zx)) ?_;rintro _ h14 n14 ⟨b14,rfl,bq14⟩ y14 x14;rcases bvs bq14 with ⟨rfl,q14⟩|⟨rfl,q14⟩
  ·refine zG ?_;refine sI rfl hjN ?_;refine sL t9 hb7 0 ?_;refine sC (xH _ (i9.x zx)) ?_;rintro _ h15 n15 ⟨b15,rfl,bq15⟩ y15 x15;rcases bvs bq15 with ⟨rfl,q15⟩|⟨rfl,q15⟩
   ·refine zG ?_;refine sA ?_;intro h20 p20 x20;have s20:SumO n15 h20 (n15+1) (3*n15+2) 0 0:=SumO.start zo zo (yz n15) p20;have i20:IW h20 n15 b10 a10 l10 c10 (T p p):=(i10.x zx:IW h15 n15 b10 a10 l10 c10 (T p p)).ext x20 (Nat.le_refl _);have k20:IW h20 n15 b8 a8 l8 c8 (T i j):=(i8.x zx:IW h15 n15 b8 a8 l8 c8 (T i j)).ext x20 (Nat.le_refl _);have i21:IW h20 n15 b4 a4 l4 c4 (T i p):=(j4.x zx:IW h15 n15 b4 a4 l4 c4 (T i p)).ext x20 (Nat.le_refl _);have k21:IW h20 n15 b9 a9 l9 c9 (T p j):=(i9.x zx:IW h15 n15 b9 a9 l9 c9 (T p j)).ext x20 (Nat.le_refl _);refine zG ?_;refine zl [0,0,3,7,0,31] rfl ?_;refine zH ?_;refine dI rfl hp ?_;refine dL t10 hb7 0 ?_;refine zH ?_;refine yK _ R7 (sr _ s20 zs i20 k20 (i20.2.l39 (hb _ _ hp hp)) (k20.2.l39 (hb _ _ hi hjN)) zo) ?_;rintro _ h22 n22 w22 ⟨s22,y22,x22,_,hw22⟩;refine ⟨rfl,y22,?_⟩;rw [uU,yc (fun b hb=>by have:=hw22 b hb;show 3*n≤b;omega)];refine zG ?_;refine zl [0,0,0,6,14,31] rfl ?_;refine zH ?_;refine dI rfl hjN ?_;refine dL t9 hb7 0 ?_;refine yK _ R7 (pE _ s22 zo (i21.ext x22 (Nat.le_refl _)) (k21.ext x22 (Nat.le_refl _)) (i21.2.l39 (hb _ _ hi hp)) (k21.2.l39 (hb _ _ hp hjN)) zo) ?_;rintro _ h23 n23 w23 ⟨s23,y23,x23,_,hw23⟩;refine ⟨rfl,y23,?_⟩;rw [uU,yc (fun b hb=>by have:=hw23 b hb;show 3*n≤b;omega)];refine zG ?_;refine zl [0,0,0,0,12,31,63] rfl ?_;refine zH ?_;refine dC (zf1 _ s23 zo) ?_;rintro _ h24 n24 ⟨b24,a24,l24,c24,rfl,i24⟩ y24 x24;refine zH ?_;refine dC (quoX _ i24 (jb.x zx) (by rw [Int.zero_add];exact hx j hjN) hbb hbf) ?_;rintro _ h25 n25 ⟨b25,a25,l25,c25,rfl,i25⟩ y25 x25;refine zH ?_;refine dI rfl hjN ?_;refine dZ [.bool b25,.slice a25 l25 c25] (o7.xx intP.kp zx) intP.kp (by rw [yO];exact tK hi hjN) (Nat.add_mul _ _ _).symm ⟨_,_,_,_,rfl,i25⟩ ?_;intro h26 o26 S26 _;refine zG ?_;have hbn:addW n [be] w7=be::w7:=tD hbe;exact sK (j+1) ⟨zo,zy,T7.trans zt,o26.as (by rw [Int.zero_add,gW hi hjN,pR]),(by show j+1≤N;omega),fun c hc=>(by have hc:c∈addW n [be] w7:=hc;rw [hbn] at hc;rcases List.mem_cons.1 hc with hc|hc;exact hc;exact hw7 c hc),fun hw=>(by have hw:addW n [be] w7=[]:=hw;rw [hbn] at hw;cases hw)⟩
   refine zG ?_;exact sK (j+1) ⟨zo,zy,T7.trans zt,(o7.xx intP.kp zx).as (by rw [rf q13 (.inr q15)]),(by show j+1≤N;omega),hw7,fun hw=>by rw [←rf q13 (.inr q15)];exact hz7 hw⟩
  refine zG ?_;exact sK (j+1) ⟨zo,zy,T7.trans zt,(o7.xx intP.kp zx).as (by rw [rf q13 (.inl q14)]),(by show j+1≤N;omega),hw7,fun hw=>by rw [←rf q13 (.inl q14)];exact hz7 hw⟩
 refine zG ?_;have hjN:j=N:=zo;subst hjN;exact ⟨rfl,[],rfl,⟨zo,zy,o7,hw7⟩,fun hw=>⟨Nat.le_refl _,ExtB.refl _ _ _,o.as (hz7 hw).symm,fun c hc=>absurd hc List.not_mem_nil⟩⟩
end
def pOps (E:Env):List Oper→List Nat→Nat→List Nat→Bool
 |[],_,_,_=>true
 |o::r,m::ms,i,es=>match o.op with
  | .store _ _ _=>es.all (fun j=>m.testBit j)&&pOps E r ms (i+1) (i::es)
  |_=>(qOp E o.op&& !(Nat.beq (cls o.op) 1))&&pOps E r ms (i+1) es
 |_::_,[],_,_=>false
theorem zcy:∀{ef:List (Nat×HF×List Nat)},(∀y∈ef,m.testBit y.1=true)→yN m ef=true:=by
 intro ef;induction ef with
 |nil=>intro _;rfl
 |cons y ef ih=>
  intro h;obtain ⟨j,g⟩:=y;unfold yN;rw [h (j,g) (by simp)];exact ih fun z hz=>h z (by simp [hz])
theorem ze2 {ops:List Oper}:∀(l:List Oper) (ms:List Nat) (i:Nat) (s:SV) (ef:List (Nat×HF×List Nat)) (es:List Nat),(∀y∈ef,y.1∈es)→pOps X.E l ms i es=true→zZ X ops l ms i ⟨s,[],[],ef⟩=seqF X ops l s:=by
 intro l;induction l with
 |nil=>intro ms i s ef es _ _;simp [zZ,seqF]
 |cons o l ih=>
  intro ms i s ef es hes hp;cases ms with
  |nil=>simp [pOps] at hp
  |cons m ms=>
   unfold pOps at hp;unfold zZ seqF;simp only;split at hp
   ·rename_i ty a x ho;rw [Bool.and_eq_true] at hp;cases hw:zh ops s.t o with
    |false=>
     simp only;congr 1;funext s1;exact ih ms (i+1) s1 ef (i::es) (fun y hy=>List.mem_cons_of_mem _ (hes y hy)) hp.2
    |true=>
     simp only;have hc:cls o.op=3:=by rw [ho];rfl
     unfold qo opF;have hef:yN m ef=true:=zcy fun y hy=>List.all_eq_true.1 hp.1 _ (hes y hy);simp only [hc,hef,xI,Bool.and_self];unfold oI;have e1:effF X.E o.op (evF s.t) s.h s.n=tG X.E ty (evF s.t a) (evF s.t x) s.h s.n:=by rw [ho];rfl
     rw [e1];cases he:tG X.E ty (evF s.t a) (evF s.t x) s.h s.n with
     |none=>rfl
     |some r=>
      obtain ⟨v,h',n',W,rfl⟩:=bW he;have en:=zhk he;subst en;simp only;have hok:zV m W []=true:=rfl;unfold xC;split
      ·simp only [hok,Nat.ble_eq_true_of_le (Nat.le_refl _),Bool.and_self];refine ih ms (i+1) _ _ (i::es) (fun y hy=>?_) hp.2;rcases List.mem_cons.1 hy with rfl|hy
       ·exact List.mem_cons_self
       exact List.mem_cons_of_mem _ (hes y hy)
      rfl
   rw [Bool.and_eq_true,Bool.and_eq_true] at hp;cases hw:zh ops s.t o with
   |false=>
    simp only;congr 1;funext s1;exact ih ms (i+1) s1 ef es hes hp.2
   |true=>
    simp only;unfold qo opF;rcases zga hp.1.1 with hlt|⟨t,d,x,k,ho,hk⟩
    ·cases hc:cls o.op with
     |zero=>
      simp only [hc];cases yn X.E o.op (evF s.t) with
      |none=>rfl
      |some v=>
       simp only;congr 1;funext s1;exact ih ms (i+1) s1 ef es hes hp.2
     |succ c=>
      cases c with
      |zero=>rw [hc] at hp;simp at hp
      |succ c=>omega
    have hc:cls o.op=4:=by rw [ho];rfl
    have hm:mkE X.E o.op (evF s.t)=none:=by rw [ho];exact nc hk _
    simp only [hc,hm];cases hpu:yn X.E o.op (evF s.t) with
    |none=>
     rw [ho];simp only [sM hk]
    |some v=>
     rw [ho];simp only [sM hk];congr 1;funext s1;exact ih ms (i+1) s1 ef es hes hp.2
theorem nk {s:SV}{Q:Ex→SV→Prop}(hq:pOps X.E ops.toList (wj ops.toList []) 0 []=true):EC X (.region id ops true) s Q↔EO X ops.toList ops.toList s (Q .normal):=by
 unfold EC EO;rw [y0];have key:zZ X ops.toList ops.toList (wj ops.toList []) 0 ⟨s,[],[],[]⟩=seqF X ops.toList ops.toList s:=ze2 _ _ _ _ _ _ (fun y hy=>absurd hy List.not_mem_nil) hq;rw [key];cases h:seqF X ops.toList ops.toList s with
 |none=>simp
 |some r=>simp only [ut];simp
section
variable {ty ty':TypeId}{x y:Operand}{s:List UInt8}{i j m:Nat}{ik ik':IntKind}
def yD:List UInt8:=[48,48,48,49,48,50,48,51,48,52,48,53,48,54,48,55,48,56,48,57,49,48,49,49,49,50,49,51,49,52,49,53,49,54,49,55,49,56,49,57,50,48,50,49,50,50,50,51,50,52,50,53,50,54,50,55,50,56,50,57,51,48,51,49,51,50,51,51,51,52,51,53,51,54,51,55,51,56,51,57,52,48,52,49,52,50,52,51,52,52,52,53,52,54,52,55,52,56,52,57,53,48,53,49,53,50,53,51,53,52,53,53,53,54,53,55,53,56,53,57,54,48,54,49,54,50,54,51,54,52,54,53,54,54,54,55,54,56,54,57,55,48,55,49,55,50,55,51,55,52,55,53,55,54,55,55,55,56,55,57,56,48,56,49,56,50,56,51,56,52,56,53,56,54,56,55,56,56,56,57,57,48,57,49,57,50,57,51,57,52,57,53,57,54,57,55,57,56,57,57]
theorem wi (m:Nat)(hm:m<100):∃b1 b2,yD[m*2]?=some b1∧yD[m*2+1]?=some b2∧b1.toNat=48+m/10∧b2.toNat=48+m%10∧(yD.drop (m*2)).take 2=[b1,b2]:=by
 have h:∀i:Fin 100,(match yD[i.val*2]?,yD[i.val*2+1]? with|some b1,some b2=>decide (b1.toNat=48+i.val/10∧b2.toNat=48+i.val%10∧(yD.drop (i.val*2)).take 2=[b1,b2])|_,_=>false)=true:=by decide+kernel
 have:=h ⟨m,hm⟩;simp only at this;split at this
 ·rename_i b1 b2 h1 h2;have h3:=of_decide_eq_true this;exact ⟨b1,b2,h1,h2,h3.1,h3.2.1,h3.2.2⟩
 cases this
section
variable {X:CtxF}{ops r:List Oper}{t:TF}{h:HF}{n:Nat}{w:List Nat}{Q:SV→Prop}{o:Oper}{d:Tmp}
theorem kE {i l:Operand}(hw:zh ops t o=true∧o.dst=some d∧zm X.nt (some d)=true∧o.op=.slice ty x (some i) (some l) none∧X.E.und ty=some .string∧evF t x=.string ⟨⟨s⟩⟩∧evF t i=.int ik (j:Int)∧evF t l=.int ik' (m:Int))(hl:j≤m∧m≤s.length)
  (k:EO X ops r ⟨upd t d (.string ⟨⟨(s.drop j).take (m-j)⟩⟩),h,n,w⟩ Q):EO X ops (o::r) ⟨t,h,n,w⟩ Q:=by
 obtain ⟨hw,hd,hn,ho,hu,hx,hj,hm⟩:=hw;refine zA ⟨hw,hd,hn,(by rw [ho];rfl),?_⟩ k;rw [ho];show yS X.E ty (evF t x) (some (evF t i)) (some (evF t l))=_;rw [hx,hj,hm];have h1:(0:Int)≤(j:Int)∧(j:Int)≤(m:Int):=zo;have h2:(0:Int)≤(m:Int)∧(m:Int)≤(s.length:Int):=zo;simp only [yS,hu,bnd,if_pos h1,if_pos h2,Int.toNat_natCast]
end
section
variable {X:CtxF}{ops r:List Oper}{t:TF}{h:HF}{n:Nat}{w:List Nat}{Q:SV→Prop}{o:Oper}{d:Tmp}
theorem eR {a s:Nat}(hw:zh ops t o=true)(hd:o.dst=some d)(hn:zm X.nt (some d)=true)(ho:o.op=.binOp .shr ty x y ty')(hx:evF t x=.int .i64 (a:Int))(hy:evF t y=.int ik (s:Int))(hs:s≤64)
  (k:EO X ops r ⟨upd t d (.int .i64 ((a/2^s:Nat):Int)),h,n,w⟩ Q):EO X ops (o::r) ⟨t,h,n,w⟩ Q:=by
 refine zA ⟨hw,hd,hn,(by rw [ho];rfl),?_⟩ k;rw [ho];show binE X.E .shr ty (evF t x) (evF t y)=_;rw [hx,hy];have hb:¬(s:Int)<0:=zo;have e:min (s:Int).toNat (IntKind.bits .i64)=s:=by simp [IntKind.bits];omega
 simp only [binE,isSh,shE,if_neg hb,e];rw [Int.fdiv_eq_ediv_of_nonneg _ (Int.le_of_lt (Int.pow_pos zd)),show (2:Int)^s=((2^s:Nat):Int) from by simp];rfl
end
theorem co (h:i<10):decT i=[UInt8.ofNat (48+i)]:=by
 have hd:(UInt8.ofNat (48+i)).toNat=48+i:=uk h;by_cases h0:i=0
 ·subst h0;rfl
 have:=qq (d:=[UInt8.ofNat (48+i)]) (fun b hb=>by rw [List.mem_singleton.1 hb,hd];omega) (by simp) (by
  intro e;injection e with e
  have:=congrArg UInt8.toNat e;rw [hd] at this;have h48:(48:UInt8).toNat=48:=rfl;omega)
 rw [←this];congr 1;show i=10*0+((UInt8.ofNat (48+i)).toNat-48);rw [hd];omega
theorem ze5 {b1 b2:UInt8}(h1:10≤i∧i<100)(e1:b1.toNat=48+i/10)(e2:b2.toNat=48+i%10):decT i=[b1,b2]:=by
 have:=qq (d:=[b1,b2]) (fun b hb=>by
  simp only [List.mem_cons,List.not_mem_nil,or_false] at hb;rcases hb with rfl|rfl<;>omega) (by simp) (by
  intro e;injection e with e
  have:=congrArg UInt8.toNat e;have h48:(48:UInt8).toNat=48:=rfl;omega)
 rw [←this];congr 1;show i=10*(10*0+(b1.toNat-48))+(b2.toNat-48);omega
def zja:List UInt8:=[48,49,50,51,52,53,54,55,56,57,97,98,99,100,101,102,103,104,105,106,107,108,109,110,111,112,113,114,115,116,117,118,119,120,121,122]
theorem zi9 (m:Nat)(hm:m<10):(zja.drop m).take 1=[UInt8.ofNat (48+m)]:=by
 have h:∀i:Fin 10,(zja.drop i.val).take 1=[UInt8.ofNat (48+i.val)]:=by decide+kernel
 exact h ⟨m,hm⟩
theorem mP (k:Nat)(h:HF)(n:Nat)(hi:i<100):VF (cal (k+1)) 187 [.int .i64 (i:Int)] h n fun v=>v=.string ⟨⟨decT i⟩⟩:=by
 refine zw (fn:=Tryz.f187) R4 ?_;refine zN ?_;refine sh ?_;by_cases h10:i<10
 ·refine sh ?_;refine Zb ?_;refine Zc ?_;refine zR ?_;refine kE (s:=zja) (j:=i) (m:=i+1) R8 ⟨zo,by show i+1≤36;omega⟩ ?_;rw [show i+1-i=1 by omega,zi9 i h10,←co h10];refine Zd ?_;exact retF _ rfl (zi rfl) R2 rfl
 refine sh ?_;refine Za ?_;obtain ⟨b1,b2,_,_,e1,e2,e3⟩:=wi i hi;refine zM ?_;refine st_mul (a:=(i:Int)) (b:=2) rfl rfl rfl rfl rfl rfl zo ?_;refine zM ?_;refine st_mul (a:=(i:Int)) (b:=2) rfl rfl rfl rfl rfl rfl zo ?_;refine zR ?_;refine kE (s:=yD) (j:=i*2) (m:=i*2+2) R8 ⟨zo,by show i*2+2≤200;omega⟩ ?_;rw [show i*2+2-i*2=2 by omega,e3,←ze5 zo e1 e2];refine Zd ?_;exact retF _ rfl (zi rfl) R2 rfl
theorem eB (k:Nat)(h:HF)(n:Nat)(b:Bool):VF (cal (k+1)) 219 [.bool b] h n fun v=>v=.int .i64 (if b then 1 else 0):=by
 refine zw (fn:=Tryz.f219) R4 ?_;refine zN ?_;refine sh ?_;refine sh ?_;cases b
 ·refine Za ?_;refine sh ?_;exact retF _ rfl (zi rfl) R2 rfl
 refine Zb ?_;refine sh ?_;exact retF _ rfl (zi rfl) R2 rfl
theorem zef (k:Nat)(h:HF)(n:Nat)(hm:m≤64):VF (cal (k+1)) 217 [.int .i64 (m:Int)] h n fun v=>v=.int .i64 ((m*78913/262144:Nat):Int):=by
 refine zw (fn:=Tryz.f217) R4 ?_;refine zN ?_;refine Zd ?_;refine zM ?_;refine st_mul (a:=(m:Int)) (b:=78913) rfl rfl rfl rfl rfl rfl zo ?_;refine eR (a:=m*78913) (s:=18) rfl rfl rfl rfl rfl rfl zo ?_;refine Zd ?_;exact retF _ rfl (zi rfl) R2 rfl
theorem zky (hm:m<20):GK.p10[0+(m:Int).toNat*1]?=some (.int .u64 ((10^m:Nat):Int)):=by
 rw [show 0+(m:Int).toNat*1=m from zo];have h:∀i:Fin 20,(match GK.p10[i.val]? with|some (.int .u64 x)=>decide (x=((10^i.val:Nat):Int))|_=>false)=true:=by decide+kernel
 have:=h ⟨m,hm⟩;simp only at this;split at this
 ·rename_i x hx;rw [hx,of_decide_eq_true this]
 cases this
theorem dK (hm:m≤64):m*78913/262144<20∧2^m≤10^(m*78913/262144+1)∧10^(m*78913/262144)≤5*2^m:=by
 have h:∀i:Fin 65,decide (i.val*78913/262144<20∧2^i.val≤10^(i.val*78913/262144+1)∧10^(i.val*78913/262144)≤5*2^i.val)=true:=by decide+kernel
 exact of_decide_eq_true (h ⟨m,zo⟩)
theorem wV (k:Nat){h:HF}(hG:GK.G h)(n:Nat){x:Nat}(hx:x<18446744073709551616)(h0:x≠0):VF (cal (k+2)) 188 [.int .u64 (x:Int)] h n fun v=>∃m:Nat,v=.int .i64 (m:Int)∧1≤m∧m≤20∧x<10^m∧10^(m-1)≤x:=by
 refine zw (fn:=Tryz.f188) R4 ?_;refine zN ?_;refine sh ?_;refine zM ?_;refine z8 _ R5 (fG k _ _ hx) ?_;rintro _ ⟨m,rfl,hm,hm1,hm2⟩;refine z8 _ R5 (zef k _ _ hm) ?_;rintro _ rfl;obtain ⟨s1,s2,s3⟩:=dK hm;have s4:=hm2 h0;generalize m*78913/262144=q at s1 s2 s3 ⊢;refine Zd ?_;refine Zc ?_;refine zM ?_;refine ic R8 ⟨Int.natCast_nonneg _,Int.ofNat_lt.2 s1⟩ ?_;refine zg R6 hG.2.1 (v:=.int .u64 ((10^q:Nat):Int)) ⟨rfl,(zky s1)⟩ ?_;by_cases hge:10^q≤x
 ·refine nT R6 (Int.ofNat_le.2 hge) ?_;refine z8 _ R5 (eB (k+1) _ _ true) ?_;rintro _ rfl;refine vv (a:=(q:Int)) (b:=1) R6 zo ?_;refine Zd ?_;exact retF _ rfl (zi rfl) R2 ⟨q+1,rfl,zo,zo,Nat.lt_of_lt_of_le hm1 s2,hge⟩
 refine kK R6 (fun hh=>hge (Int.ofNat_le.1 hh)) ?_;refine z8 _ R5 (eB (k+1) _ _ false) ?_;rintro _ rfl;refine vv (a:=(q:Int)) (b:=0) R6 zo ?_;rw [Int.add_zero];refine Zd ?_;have hq0:1≤q:=by
  rcases Nat.eq_zero_or_pos q with h|h
  ·subst h;rw [Nat.pow_zero] at hge;omega
  exact h
 refine retF _ rfl (zi rfl) R2 ⟨q,rfl,hq0,zo,zo,?_⟩;obtain ⟨p,rfl⟩:∃p,q=p+1:=⟨q-1,zo⟩;rw [Nat.pow_succ] at s3;show 10^p≤x;omega
end
section
variable {h h0:HF}{B L U cap i m n:Nat}{e:TypeId}{c c0:List Value}{w:List Nat}
def Dg (c:List Value)(o L U i:Nat):Prop:=∀j,i≤j→j<L→c[o+j]?=some (.int .u8 ((48+U/10^(L-1-j)%10:Nat):Int))
structure FbI (h0:HF)(B:Nat)(e:TypeId)(o L U:Nat)(c0:List Value)(h:HF)(w:List Nat)(c:List Value)(i:Nat):Prop where
 w1:∀b∈w,b=B
 w2:w=[]→h=h0
 oth:Only B h0 h
 row:h B=some (.row c e)
 len:c.length=c0.length
 dg:Dg c o L U i
 out:∀k,(k<o∨o+L≤k)→c[k]?=c0[k]?
theorem FbI.put {o:Nat}{v:Nat}(f:FbI h0 B e o L U c0 h w c i)(hi:i=m+1)(hL:i≤L)(hl:o+L≤c0.length)(hv:v=48+U/10^(L-i)%10):FbI h0 B e o L U c0 (upd h B (some (.row (c.set (o+m) (.int .u8 (v:Int))) e))) (B::w) (c.set (o+m) (.int .u8 (v:Int))) m:=by
 refine ⟨fun b hb=>?_,fun h=>(by cases h),fun b hb=>(zj hb).trans (f.oth b hb),ze _ _ _,by rw [List.length_set,f.len],fun j h1 h2=>?_,fun k hk=>?_⟩
 ·rcases List.mem_cons.1 hb with h|h
  ·exact h
  exact f.w1 b h
 ·by_cases e2:j=m
  ·subst e2;rw [List.getElem?_set_self (by rw [f.len];omega),hv,show L-1-j=L-i by omega]
  rw [List.getElem?_set_ne zo];exact f.dg j zo h2
 rw [List.getElem?_set_ne zo];exact f.out k hk
def FbP (h:HF)(n B:Nat)(e:TypeId)(o L U:Nat)(c0:List Value)(h':HF)(n':Nat)(w:List Nat):Prop:=n'=n∧(∀b∈w,b=B)∧∃c,FbI h B e o L U c0 h' w c 0
theorem lZ (k:Nat){o:Nat}(hB:B<3*n)(hrow:h B=some (.row c0 e))(hl:o+L≤c0.length)(hL:1≤L∧L≤20)(hU:U<10^L)(hU2:U<18446744073709551616):
  CF (cal (k+1)) 189 [.slice (some ⟨B,o,none⟩) L cap,.int .u64 (U:Int)] h n fun _ h' n' w=>FbP h n B e o L U c0 h' n' w:=by
 refine ks (fn:=Tryz.f189) R4 ?_;have f0:FbI h B e o L U c0 h [] c0 L:=⟨fun b hb=>absurd hb List.not_mem_nil,fun _=>rfl,fun _ _=>rfl,hrow,rfl,fun j h1 h2=>absurd h1 zo,fun _ _=>rfl⟩;refine zN ?_;refine sh ?_;refine zQ (α:=Nat×Nat×List Value) (fun z=>[(0,.slice (some ⟨B,o,none⟩) L cap),(1,.int .u64 (z.2.1:Int)),(4,.int .i64 (z.1:Int))])
  (fun z h' n' w=>n=n'∧FbI h B e o L U c0 h' w z.2.2 z.1∧z.1≤L∧z.2.1=U/10^(L-z.1)) (fun z=>z.1) (L,U,c0) ⟨rfl,rfl,rfl,trivial⟩ ⟨rfl,f0,Nat.le_refl _,by show U=U/10^(L-L);rw [Nat.sub_self,Nat.pow_zero,Nat.div_one]⟩ (by show L<LL;unfold LL;omega) ?_
 rintro ⟨i,u,c⟩ t h1 _ w ⟨rfl,f1,hi,hu⟩;have f1:FbI h B e o L U c0 h1 w c i:=f1;have hi:i≤L:=hi;have hu:u=U/10^(L-i):=hu;have dg:∀q,U/10^(L-i+q)=u/10^q:=fun q=>by rw [hu,Nat.div_div_eq_div_mul,←Nat.pow_add]
 have hub:u<18446744073709551616:=by rw [hu];exact Nat.lt_of_le_of_lt (Nat.div_le_self _ _) hU2
 have hui:u<10^i:=by
  rw [hu];refine Nat.div_lt_of_lt_mul ?_;rw [←Nat.pow_add,show L-i+i=L by omega];exact hU
 refine zN ?_;by_cases h8:8≤i
 ·refine sh ?_;refine Zb ?_;refine zM ?_;refine rO (a:=u) (b:=100000000) R6 zo ?_;refine pJ (c:=u%100000000) R7 zo ?_;refine Zd ?_;refine zM ?_;refine vu (a:=u) (b:=100000000) R6 ⟨zo,zo⟩ ?_;refine Zd ?_;generalize hus:u%100000000=us;refine zM ?_;refine xt (a:=us) (b:=10000) R6 ⟨zo,zo⟩ ?_;refine zM ?_;refine xX (a:=us) (b:=10000) R6 zo ?_;refine Zc ?_;refine zN ?_;generalize hlo:us%10000=lo;generalize hhi:us/10000=hg;have hm0:lo%100=u%100:=zo;refine zM ?_;refine xt (a:=lo) (b:=100) R6 ⟨zo,zo⟩ ?_;refine yI (a:=lo/100) (b:=2) R6 zo ?_;refine zM ?_;refine xX (a:=lo) (b:=100) R6 zo ?_;refine yI (a:=lo%100) (b:=2) R6 zo ?_;refine Zc ?_;refine Zf ?_;refine xt (a:=hg) (b:=100) R6 ⟨zo,zo⟩ ?_;refine yI (a:=hg/100) (b:=2) R6 zo ?_;refine zM ?_;refine xX (a:=hg) (b:=100) R6 zo ?_;refine yI (a:=hg%100) (b:=2) R6 zo ?_;refine Zc ?_;refine zN ?_;generalize hm1:lo%100=m1;generalize hm2:lo/100=m2;generalize hm3:hg%100=m3;generalize hm4:hg/100=m4;have k0:m1%10=u%10∧m1/10=u/10%10:=zo;have k1:m2%10=u/100%10∧m2/10=u/1000%10:=zo;have k2:m3%10=u/10000%10∧m3/10=u/100000%10:=zo;have k3:m4%10=u/1000000%10∧m4/10=u/10000000%10:=zo;have l1:m1<100∧m2<100∧m3<100∧m4<100:=zo;clear hm0 hm1 hm2 hm3 hm4 hlo hhi hus;rw [nk rfl];obtain ⟨b1,b2,s1,s2,s3,s4,_⟩:=wi (m1) zo;refine Zc ?_;refine zR ?_;refine Zc ?_;refine zR ?_;refine zM ?_;refine yA (a:=m1*2) (b:=1) R6 zo ?_;refine yf (s:=yD) (j:=m1*2+1) R8 s2 ?_;rw [s4];refine zM ?_;refine yf (s:=yD) (j:=m1*2) R8 s1 ?_;rw [s3];refine yW (j:=i-1) R8 zo ⟨zo,by rw [f1.len];omega⟩ f1.row (by show B<3*n;omega) (fun _=>rfl) R3 (fun _=>rfl) rfl fun _=>?_;have f2:=f1.put (m:=i-1) (v:=48+(m1)%10) zo zo hl (by rw [←hu,k0.1]);refine yW (j:=i-2) R8 zo ⟨zo,by rw [f2.len];omega⟩ f2.row (by show B<3*n;omega) (fun _=>rfl) R3 (fun _=>rfl) rfl fun _=>?_;have f3:=f2.put (m:=i-2) (v:=48+(m1)/10) zo zo hl (by rw [show L-(i-1)=L-i+1 by omega,dg 1,k0.2]);clear s1 s2 s3 s4;refine zN ?_;rw [nk rfl];obtain ⟨b1,b2,s1,s2,s3,s4,_⟩:=wi (m2) zo;refine Zc ?_;refine zR ?_;refine Zc ?_;refine zR ?_;refine zM ?_;refine yA (a:=m2*2) (b:=1) R6 zo ?_;refine yf (s:=yD) (j:=m2*2+1) R8 s2 ?_;rw [s4];refine zM ?_;refine yf (s:=yD) (j:=m2*2) R8 s1 ?_;rw [s3];refine yW (j:=i-3) R8 zo ⟨zo,by rw [f3.len];omega⟩ f3.row (by show B<3*n;omega) (fun _=>rfl) R3 (fun _=>rfl) rfl fun _=>?_;have f4:=f3.put (m:=i-3) (v:=48+(m2)%10) zo zo hl (by rw [show L-(i-2)=L-i+2 by omega,dg 2,k1.1]);refine yW (j:=i-4) R8 zo ⟨zo,by rw [f4.len];omega⟩ f4.row (by show B<3*n;omega) (fun _=>rfl) R3 (fun _=>rfl) rfl fun _=>?_;have f5:=f4.put (m:=i-4) (v:=48+(m2)/10) zo zo hl (by rw [show L-(i-3)=L-i+3 by omega,dg 3,k1.2]);clear s1 s2 s3 s4;refine zN ?_;rw [nk rfl];obtain ⟨b1,b2,s1,s2,s3,s4,_⟩:=wi (m3) zo;refine Zc ?_;refine zR ?_;refine Zc ?_;refine zR ?_;refine zM ?_;refine yA (a:=m3*2) (b:=1) R6 zo ?_;refine yf (s:=yD) (j:=m3*2+1) R8 s2 ?_;rw [s4];refine zM ?_;refine yf (s:=yD) (j:=m3*2) R8 s1 ?_;rw [s3];refine yW (j:=i-5) R8 zo ⟨zo,by rw [f5.len];omega⟩ f5.row (by show B<3*n;omega) (fun _=>rfl) R3 (fun _=>rfl) rfl fun _=>?_;have f6:=f5.put (m:=i-5) (v:=48+(m3)%10) zo zo hl (by rw [show L-(i-4)=L-i+4 by omega,dg 4,k2.1]);refine yW (j:=i-6) R8 zo ⟨zo,by rw [f6.len];omega⟩ f6.row (by show B<3*n;omega) (fun _=>rfl) R3 (fun _=>rfl) rfl fun _=>?_;have f7:=f6.put (m:=i-6) (v:=48+(m3)/10) zo zo hl (by rw [show L-(i-5)=L-i+5 by omega,dg 5,k2.2]);clear s1 s2 s3 s4;refine zN ?_;rw [nk rfl];obtain ⟨b1,b2,s1,s2,s3,s4,_⟩:=wi (m4) zo;refine Zc ?_;refine zR ?_;refine Zc ?_;refine zR ?_;refine zM ?_;refine yA (a:=m4*2) (b:=1) R6 zo ?_;refine yf (s:=yD) (j:=m4*2+1) R8 s2 ?_;rw [s4];refine zM ?_;refine yf (s:=yD) (j:=m4*2) R8 s1 ?_;rw [s3];refine yW (j:=i-7) R8 zo ⟨zo,by rw [f7.len];omega⟩ f7.row (by show B<3*n;omega) (fun _=>rfl) R3 (fun _=>rfl) rfl fun _=>?_;have f8:=f7.put (m:=i-7) (v:=48+(m4)%10) zo zo hl (by rw [show L-(i-6)=L-i+6 by omega,dg 6,k3.1]);refine yW (j:=i-8) R8 zo ⟨zo,by rw [f8.len];omega⟩ f8.row (by show B<3*n;omega) (fun _=>rfl) R3 (fun _=>rfl) rfl fun _=>?_;have f9:=f8.put (m:=i-8) (v:=48+(m4)/10) zo zo hl (by rw [show L-(i-7)=L-i+7 by omega,dg 7,k3.2]);clear s1 s2 s3 s4;refine zN ?_;refine sh ?_;exact goOn (i-8,u/100000000,_) (by show i-8<i;omega) ⟨rfl,rfl,by show Value.int .i64 _=Value.int .i64 _;congr 1;show (i:Int)-8=((i-8:Nat):Int);omega,trivial⟩ ⟨rfl,f9,by show i-8≤L;omega,by show u/100000000=U/10^(L-(i-8));rw [show L-(i-8)=L-i+8 by omega,dg 8]⟩
 refine sh ?_;refine Za ?_;have hu8:u<100000000:=Nat.lt_of_lt_of_le hui (Nat.pow_le_pow_right zd (show i≤8 by omega));refine zM ?_;refine pJ (c:=u) R7 zo ?_;refine Zd ?_;refine zM ?_;refine ie R6 ?_;refine zN ?_;refine yo (α:=Nat×Nat×List Value) (fun z=>[(0,.slice (some ⟨B,o,none⟩) L cap),(4,.int .i64 (z.1:Int)),(12,.int .u32 (z.2.1:Int))]) (fun z h' n' w=>n=n'∧FbI h B e o L U c0 h' w z.2.2 z.1∧z.1≤L∧z.2.1=U/10^(L-z.1)∧z.2.1<10^z.1∧z.1<4) ?_ ?_
 ·by_cases h4:4≤i
  ·rw [decide_eq_true (show (i:Int)≥4 by omega)];refine Zb ?_;refine zM ?_;refine xX (a:=u) (b:=10000) R6 zo ?_;refine Zd ?_;refine zM ?_;refine xt (a:=u) (b:=10000) R6 ⟨zo,zo⟩ ?_;refine Zd ?_;generalize hlo:u%10000=lo;refine zM ?_;refine xt (a:=lo) (b:=100) R6 ⟨zo,zo⟩ ?_;refine yI (a:=lo/100) (b:=2) R6 zo ?_;refine zM ?_;refine xX (a:=lo) (b:=100) R6 zo ?_;refine yI (a:=lo%100) (b:=2) R6 zo ?_;refine Zc ?_;refine zN ?_;generalize hm1:lo%100=m1;generalize hm2:lo/100=m2;have k0:m1%10=u%10∧m1/10=u/10%10:=zo;have k1:m2%10=u/100%10∧m2/10=u/1000%10:=zo;have l1:m1<100∧m2<100:=zo;clear hm1 hm2 hlo;rw [nk rfl];obtain ⟨b1,b2,s1,s2,s3,s4,_⟩:=wi (m1) zo;refine Zc ?_;refine zR ?_;refine Zc ?_;refine zR ?_;refine zM ?_;refine yA (a:=m1*2) (b:=1) R6 zo ?_;refine yf (s:=yD) (j:=m1*2+1) R8 s2 ?_;rw [s4];refine zM ?_;refine yf (s:=yD) (j:=m1*2) R8 s1 ?_;rw [s3];refine yW (j:=i-1) R8 zo ⟨zo,by rw [f1.len];omega⟩ f1.row (by show B<3*n;omega) (fun _=>rfl) R3 (fun _=>rfl) rfl fun _=>?_;have f2:=f1.put (m:=i-1) (v:=48+(m1)%10) zo zo hl (by rw [←hu,k0.1]);refine yW (j:=i-2) R8 zo ⟨zo,by rw [f2.len];omega⟩ f2.row (by show B<3*n;omega) (fun _=>rfl) R3 (fun _=>rfl) rfl fun _=>?_;have f3:=f2.put (m:=i-2) (v:=48+(m1)/10) zo zo hl (by rw [show L-(i-1)=L-i+1 by omega,dg 1,k0.2]);clear s1 s2 s3 s4;refine zN ?_;rw [nk rfl];obtain ⟨b1,b2,s1,s2,s3,s4,_⟩:=wi (m2) zo;refine Zc ?_;refine zR ?_;refine Zc ?_;refine zR ?_;refine zM ?_;refine yA (a:=m2*2) (b:=1) R6 zo ?_;refine yf (s:=yD) (j:=m2*2+1) R8 s2 ?_;rw [s4];refine zM ?_;refine yf (s:=yD) (j:=m2*2) R8 s1 ?_;rw [s3];refine yW (j:=i-3) R8 zo ⟨zo,by rw [f3.len];omega⟩ f3.row (by show B<3*n;omega) (fun _=>rfl) R3 (fun _=>rfl) rfl fun _=>?_;have f4:=f3.put (m:=i-3) (v:=48+(m2)%10) zo zo hl (by rw [show L-(i-2)=L-i+2 by omega,dg 2,k1.1]);refine yW (j:=i-4) R8 zo ⟨zo,by rw [f4.len];omega⟩ f4.row (by show B<3*n;omega) (fun _=>rfl) R3 (fun _=>rfl) rfl fun _=>?_;have f5:=f4.put (m:=i-4) (v:=48+(m2)/10) zo zo hl (by rw [show L-(i-3)=L-i+3 by omega,dg 3,k1.2]);clear s1 s2 s3 s4;refine zN ?_;refine sh ?_;refine zK (i-4,u/10000,_) ⟨rfl,by show Value.int .i64 _=Value.int .i64 _;congr 1;show (i:Int)-4=((i-4:Nat):Int);omega,rfl,trivial⟩ ⟨rfl,f5,by show i-4≤L;omega,by show u/10000=U/10^(L-(i-4));rw [show L-(i-4)=L-i+4 by omega,dg 4],?_,by show i-4<4;omega⟩;show u/10000<10^(i-4);refine Nat.div_lt_of_lt_mul ?_;rw [show (10000:Nat)=10^4 from rfl,←Nat.pow_add,show 4+(i-4)=i by omega];exact hui
  rw [decide_eq_false (show ¬(i:Int)≥4 by omega)];rw [za rfl];try refine zN ?_
  exact zK (i,u,c) ⟨rfl,rfl,rfl,trivial⟩ ⟨rfl,f1,hi,hu,hui,by show i<4;omega⟩
 clear f1 hi hu dg hub hui h8 hu8;rintro ⟨i,u,c⟩ t h1 _ w ⟨rfl,f1,hi,hu,hui,hi4⟩;have f1:FbI h B e o L U c0 h1 w c i:=f1;have hi:i≤L:=hi;have hu:u=U/10^(L-i):=hu;have hui:u<10^i:=hui;have hi4:i<4:=hi4;have dg:∀q,U/10^(L-i+q)=u/10^q:=fun q=>by rw [hu,Nat.div_div_eq_div_mul,←Nat.pow_add]
 have hu4:u<10000:=Nat.lt_of_lt_of_le hui (Nat.pow_le_pow_right zd (show i≤4 by omega));refine Zf ?_;refine ie R6 ?_;refine zN ?_;refine yo (α:=Nat×Nat×List Value) (fun z=>[(0,.slice (some ⟨B,o,none⟩) L cap),(4,.int .i64 (z.1:Int)),(12,.int .u32 (z.2.1:Int))]) (fun z h' n' w=>n=n'∧FbI h B e o L U c0 h' w z.2.2 z.1∧z.1≤L∧z.2.1=U/10^(L-z.1)∧z.2.1<10^z.1∧z.1<2) ?_ ?_
 ·by_cases h2:2≤i
  ·rw [decide_eq_true (show (i:Int)≥2 by omega)];refine Zb ?_;refine zM ?_;refine xX (a:=u) (b:=100) R6 zo ?_;refine yI (a:=u%100) (b:=2) R6 zo ?_;refine Zd ?_;refine zM ?_;refine xt (a:=u) (b:=100) R6 ⟨zo,zo⟩ ?_;refine Zd ?_;generalize hm1:u%100=m1;have k0:m1%10=u%10∧m1/10=u/10%10:=zo;have l1:m1<100:=zo;clear hm1;rw [nk rfl];obtain ⟨b1,b2,s1,s2,s3,s4,_⟩:=wi (m1) zo;refine Zc ?_;refine zR ?_;refine Zc ?_;refine zR ?_;refine zM ?_;refine yA (a:=m1*2) (b:=1) R6 zo ?_;refine yf (s:=yD) (j:=m1*2+1) R8 s2 ?_;rw [s4];refine zM ?_;refine yf (s:=yD) (j:=m1*2) R8 s1 ?_;rw [s3];refine yW (j:=i-1) R8 zo ⟨zo,by rw [f1.len];omega⟩ f1.row (by show B<3*n;omega) (fun _=>rfl) R3 (fun _=>rfl) rfl fun _=>?_;have f2:=f1.put (m:=i-1) (v:=48+(m1)%10) zo zo hl (by rw [←hu,k0.1]);refine yW (j:=i-2) R8 zo ⟨zo,by rw [f2.len];omega⟩ f2.row (by show B<3*n;omega) (fun _=>rfl) R3 (fun _=>rfl) rfl fun _=>?_;have f3:=f2.put (m:=i-2) (v:=48+(m1)/10) zo zo hl (by rw [show L-(i-1)=L-i+1 by omega,dg 1,k0.2]);clear s1 s2 s3 s4;refine zN ?_;refine sh ?_;refine zK (i-2,u/100,_) ⟨rfl,by show Value.int .i64 _=Value.int .i64 _;congr 1;show (i:Int)-2=((i-2:Nat):Int);omega,rfl,trivial⟩ ⟨rfl,f3,by show i-2≤L;omega,by show u/100=U/10^(L-(i-2));rw [show L-(i-2)=L-i+2 by omega,dg 2],?_,by show i-2<2;omega⟩;show u/100<10^(i-2);refine Nat.div_lt_of_lt_mul ?_;rw [show (100:Nat)=10^2 from rfl,←Nat.pow_add,show 2+(i-2)=i by omega];exact hui
  rw [decide_eq_false (show ¬(i:Int)≥2 by omega)];rw [za rfl];try refine zN ?_
  exact zK (i,u,c) ⟨rfl,rfl,rfl,trivial⟩ ⟨rfl,f1,hi,hu,hui,by show i<2;omega⟩
 clear f1 hi hu dg hui hu4 hi4;rintro ⟨i,u,c⟩ t h1 _ w ⟨rfl,f1,hi,hu,hui,hi2⟩;have f1:FbI h B e o L U c0 h1 w c i:=f1;have hi:i≤L:=hi;have hu:u=U/10^(L-i):=hu;have hui:u<10^i:=hui;have hi2:i<2:=hi2;refine zN ?_;by_cases h0:i=0
 ·subst h0;refine sh ?_;rw [za rfl];try refine zN ?_
  refine ⟨rfl,[],rfl,⟨rfl,f1.w1,c,f1⟩,fun hw=>?_⟩;subst hw;have:=f1.w2 rfl;subst this;exact ⟨rfl,f1.w1,c,f1⟩
 have h1':i=1:=zo;subst h1';have hu10:u<10:=hui;refine sh ?_;refine Zb ?_;refine Zc ?_;refine yA (a:=48) (b:=u) R6 zo ?_;refine rP (a:=48+u) R7 ?_;rw [Nat.mod_eq_of_lt (show 48+u<256 by omega)];refine yW (j:=0) R8 rfl ⟨zo,by rw [f1.len];omega⟩ f1.row (by show B<3*n;omega) (fun _=>rfl) R3 (fun _=>rfl) rfl fun _=>?_;have f2:=f1.put (m:=0) (v:=48+u) rfl hi hl (by rw [←hu,Nat.mod_eq_of_lt hu10]);refine zN ?_;exact ⟨rfl,[],rfl,⟨rfl,f2.w1,_,f2⟩,fun hw=>(by cases hw)⟩
end
section
variable {h0:HF}{B L U b bt cap i j len sz:Nat}{e ty:TypeId}{c c0:List Value}{hi x:Operand}{z:Value}{ik ik':IntKind}{ji:Int}
theorem eo:∀(L U:Nat),1≤L→U<10^L→10^(L-1)≤U→(decD U).length=L∧∀j,j<L→(decD U)[j]?=some (U/10^(L-1-j)%10):=by
 intro L;induction L with
 |zero=>intro U h;omega
 |succ L ih=>
  intro U _ h1 h2;have hp:0<10^L:=Nat.pow_pos zd;rw [Nat.add_sub_cancel] at h2;have hd:=wq (V:=U) zo;by_cases hL:L=0
  ·subst hL;have e:U/10=0:=by rw [Nat.pow_one] at h1;omega
   rw [e,xm] at hd;rw [hd];refine ⟨rfl,fun j hj=>?_⟩;have:j=0:=zo;subst this;rw [show 0+1-1-0=0 by omega,Nat.pow_zero,Nat.div_one];rfl
  obtain ⟨e1,e2⟩:=ih (U/10) zo (by rw [Nat.pow_succ] at h1;omega) (by
   obtain ⟨q,rfl⟩:∃q,L=q+1:=⟨L-1,zo⟩;rw [Nat.pow_succ] at h2;rw [Nat.add_sub_cancel];omega)
  rw [hd];refine ⟨by rw [List.length_append,e1];rfl,fun j hj=>?_⟩;by_cases h3:j<L
  ·rw [List.getElem?_append_left zo,e2 j h3,Nat.div_div_eq_div_mul,Nat.mul_comm 10,←Nat.pow_succ,show (L-1-j).succ=L+1-1-j by omega]
  have:j=L:=zo;subst this;rw [List.getElem?_append_right zo,e1,Nat.sub_self,Nat.add_sub_cancel,Nat.sub_self,Nat.pow_zero,Nat.div_one];rfl
theorem FbI.cells {o:Nat}{h:HF}{w:List Nat}(f:FbI h0 B e o L U c0 h w c 0)(hl:o+L≤c0.length)(hL:1≤L)(h1:U<10^L)(h2:10^(L-1)≤U):(c.drop o).take L=u8s (decB U):=by
 obtain ⟨e1,e2⟩:=eo L U hL h1 h2;have hc:=f.len;refine List.ext_getElem? fun j=>?_;by_cases hj:j<L
 ·rw [List.getElem?_take_of_lt hj,List.getElem?_drop,f.dg j (Nat.zero_le _) hj];unfold u8s decB;rw [List.getElem?_map,List.getElem?_map,e2 j hj];rfl
 rw [List.getElem?_eq_none (by rw [List.length_take,List.length_drop];omega),List.getElem?_eq_none (by rw [rI];unfold decB;rw [List.length_map];omega)]
section
variable {X:CtxF}{ops r:List Oper}{t:TF}{h:HF}{n:Nat}{w:List Nat}{Q:SV→Prop}{o:Oper}{d:Tmp}
theorem pK {lo:Operand}(hw:zh ops t o=true∧o.dst=some d∧zm X.nt (some d)=true∧o.op=.slice ty x (some lo) (some hi) none∧X.E.und ty=some (.array len e)∧X.E.inf e=some (sz,bt,z)∧evF t x=.pointer (some ⟨b,0,none⟩)∧evF t lo=.int ik (i:Int)∧evF t hi=.int ik' ji)(hji:ji=(j:Int))(hb:gro b=false)(hl:i≤j∧j≤len∧i<len)
  (k:EO X ops r ⟨upd t d (.slice (some ⟨b,0+i*sz,none⟩) (j-i) (len-i)),h,n,w⟩ Q):EO X ops (o::r) ⟨t,h,n,w⟩ Q:=by
 obtain ⟨hw,hd,hn,ho,hu,hi',hx,hlo,hhi⟩:=hw;subst hji;refine zA ⟨hw,hd,hn,(by rw [ho];rfl),?_⟩ k;rw [ho];show yS X.E ty (evF t x) (some (evF t lo)) (some (evF t hi))=_;rw [hx,hlo,hhi];have h1:(0:Int)≤(i:Int)∧(i:Int)≤(j:Int):=zo;have h2:(0:Int)≤(j:Int)∧(j:Int)≤(len:Int):=zo;have h3:Nat.beq len i=false:=by
  cases he:Nat.beq len i with
  |false=>rfl
  |true=>have:=Nat.eq_of_beq_eq_true he;omega
 simp only [yS,hu,hi',bnd,if_pos h1,if_pos h2,Int.toNat_natCast,hb,Option.isSome_none,Bool.or_self,offA,h3,wm]
theorem u9 (hw:zh ops t o=true∧o.dst=some d∧zm X.nt (some d)=true∧o.op=.slice ty x none (some hi) none∧X.E.und ty=some (.array len e)∧X.E.inf e=some (sz,bt,z)∧evF t x=.pointer (some ⟨b,0,none⟩)∧evF t hi=.int ik' ji)(hji:ji=(j:Int))(hb:gro b=false)(hl:j≤len∧0<len)
  (k:EO X ops r ⟨upd t d (.slice (some ⟨b,0,none⟩) j len),h,n,w⟩ Q):EO X ops (o::r) ⟨t,h,n,w⟩ Q:=by
 obtain ⟨hw,hd,hn,ho,hu,hi',hx,hhi⟩:=hw;subst hji;refine zA ⟨hw,hd,hn,(by rw [ho];rfl),?_⟩ k;rw [ho];show yS X.E ty (evF t x) none (some (evF t hi))=_;rw [hx,hhi];have h2:(0:Int)≤(j:Int)∧(j:Int)≤(len:Int):=zo;have h3:Nat.beq len 0=false:=by
  cases he:Nat.beq len 0 with
  |false=>rfl
  |true=>have:=Nat.eq_of_beq_eq_true he;omega
 simp only [yS,hu,hi',bnd,if_pos h2,Int.toNat_natCast,hb,Option.isSome_none,Bool.or_self,offA,h3,wm,Nat.zero_mul,Nat.sub_zero]
end
def intT (x:Int):List UInt8:=(if x<0 then [45] else [])++decT x.natAbs
theorem ed (h:U≠0):(decB U).map UInt8.ofNat=decT U:=by unfold decT;rw [if_neg h]
theorem gL (d:Nat)(l:List Nat):u8s (d::l)=Value.int .u8 (d:Int)::u8s l:=rfl
theorem vJ {h:HF}{o:Nat}{cl:List Value}(hr:h b=some (.row c e))(hc:(c.drop o).take L=cl)(hl:o+L≤c.length)(hcap:L≤cap):argS h 1 (.slice (some ⟨b,o,none⟩) L cap) L cl:=
 uB (n:=b+1) (.at_ zo hr rfl hcap zo (by rw [Nat.mul_one];exact hc))
theorem zbh (k:Nat){h:HF}(hG:GK.G h){n:Nat}(hn:20≤n){x:Int}(hx: -9223372036854775808≤x∧x<9223372036854775808):VF (cal (k+3)) 151 [.int .i64 x,.int .i64 10] h n fun v=>v=.string ⟨⟨intT x⟩⟩:=by
 refine zw (fn:=Tryz.f151) R4 ?_;refine zN ?_;refine sh ?_;refine sh ?_;refine Zb ?_;by_cases hsm:0≤x∧x<100
 ·obtain ⟨i,rfl⟩:∃i:Nat,x=(i:Int):=⟨x.natAbs,zo⟩;refine sh ?_;refine Zb ?_;refine zM ?_;refine z8 _ R5 (mP (k+1) _ _ zo) ?_;rintro _ rfl;refine Zd ?_;refine retF _ rfl (zi rfl) R2 ?_;show Value.string _=_;unfold intT;rw [if_neg zo];rfl
 obtain ⟨m,hm⟩:∃m,m=x.natAbs:=⟨_,rfl⟩;have hm0:m≠0:=zo;by_cases hneg:x<0
 ·refine sh ?_;refine Za ?_;refine we (List.replicate 24 (.int .u8 0)) R6 ?_;intro h1 p1 x1;refine Zf ?_;refine wG (ik:=.u64) (a:=((18446744073709551616-m:Nat):Int)) R6 ?_ ?_
  ·show some (Value.int .u64 (IntKind.wrap .u64 x))=_;rw [show x= -(m:Int) from zo,uE m zo]
  refine Zd ?_;refine sh ?_;refine Zb ?_;refine zM ?_;refine zA (v:=.int .u64 (m:Int)) ⟨rfl,rfl,rfl,rfl,?_⟩ ?_
  ·show some (Value.int .u64 (IntKind.wrap .u64 (0-((18446744073709551616-m:Nat):Int))))=_;rw [vR _ zo];congr 3;omega
  refine Zd ?_;refine zM ?_;refine z8 _ R5 (wV k (sw hG x1 hn) _ zo hm0) ?_;rintro _ ⟨L,rfl,hL1,hL2,hU1,hU2⟩;refine Zd ?_;refine zM ?_;refine vv (a:=1) (b:=(L:Int)) R6 zo ?_;refine pK (i:=1) (j:=1+L) R9 zo (yz n) zo ?_;rw [show 1+L-1=L by omega];refine zM ?_;refine zu _ R5 (lZ (k+1) (h:=h1) (n:=n+1) (B:=3*n+2) (o:=1) (L:=L) (U:=m) zo p1 (by rw [List.length_replicate];omega) zo hU1 zo) ?_;rintro v h2 _ W ⟨rfl,hW,c,f⟩;rw [yc fun b hb=>by rw [hW b hb];show 3*n≤_;omega];have hcl:c.length=24:=by rw [f.len,List.length_replicate]
  refine zN ?_;refine sh ?_;refine Zb ?_;refine ic R8 (j:=0) zo ?_;refine pz (b:=3*n+2) (off:=0) (c.set 0 (.int .u8 45)) R5 f.row R3 (by rw [hcl];omega) (splice_one c 0 _ zo) (by show 3*n≤_;omega) ?_;intro h3 p3 o3;refine Zf ?_;refine vv (a:=1) (b:=(L:Int)) R6 zo ?_;refine u9 (j:=1+L) R8 zo (yz n) zo ?_;have hcs:((c.set 0 (.int .u8 45)).drop 0).take (1+L)=u8s (45::decB m):=by
   rw [gL,←f.cells (by rw [List.length_replicate];omega) hL1 hU1 hU2,List.drop_zero];cases c with
   |nil=>simp at hcl
   |cons c1 c2=>rw [List.set_cons_zero,Nat.add_comm,List.take_succ_cons,List.drop_succ_cons,List.drop_zero];rfl
  refine rN R5 (uY (B:=45::decB m) R3 (vJ p3 hcs (by rw [List.length_set];omega) zo)) ?_;refine Zd ?_;refine retF _ rfl (zi rfl) R2 ?_;show Value.string _=_;unfold intT;rw [if_pos hneg,←hm,←ed hm0];rfl
 refine sh ?_;refine Za ?_;refine we (List.replicate 24 (.int .u8 0)) R6 ?_;intro h1 p1 x1;refine Zf ?_;refine wG (ik:=.u64) (a:=(m:Int)) R6 ?_ ?_
 ·show some (Value.int .u64 (IntKind.wrap .u64 x))=_;rw [show x=(m:Int) from zo,xG,Nat.mod_eq_of_lt zo]
 refine Zd ?_;refine sh ?_;refine Za ?_;refine zM ?_;refine z8 _ R5 (wV k (sw hG x1 hn) _ zo hm0) ?_;rintro _ ⟨L,rfl,hL1,hL2,hU1,hU2⟩;refine Zd ?_;refine zM ?_;refine vv (a:=1) (b:=(L:Int)) R6 zo ?_;refine pK (i:=1) (j:=1+L) R9 zo (yz n) zo ?_;rw [show 1+L-1=L by omega];refine zM ?_;refine zu _ R5 (lZ (k+1) (h:=h1) (n:=n+1) (B:=3*n+2) (o:=1) (L:=L) (U:=m) zo p1 (by rw [List.length_replicate];omega) zo hU1 zo) ?_;rintro v h2 _ W ⟨rfl,hW,c,f⟩;rw [yc fun b hb=>by rw [hW b hb];show 3*n≤_;omega];have hcl:c.length=24:=by rw [f.len,List.length_replicate]
 refine zN ?_;refine sh ?_;refine Za ?_;refine zM ?_;refine vv (a:=1) (b:=(L:Int)) R6 zo ?_;refine pK (i:=1) (j:=1+L) R9 zo (yz n) zo ?_;rw [show 1+L-1=L by omega];refine rN R5 (uY (B:=decB m) R3 (vJ f.row (f.cells (by rw [List.length_replicate];omega) hL1 hU1 hU2) zo zo)) ?_;refine Zd ?_;refine retF _ rfl (zi rfl) R2 ?_;show Value.string _=_;unfold intT;rw [if_neg hneg,←hm,←ed hm0];rfl
theorem ml (k:Nat){h:HF}(hG:GK.G h){n:Nat}(hn:20≤n){x:Int}(hx: -9223372036854775808≤x∧x<9223372036854775808):VF (cal (k+4)) 123 [.int .i64 x,.int .i64 10] h n fun v=>v=.string ⟨⟨intT x⟩⟩:=by
 refine zw (fn:=Tryz.f123) R4 ?_;refine zN ?_;refine Zd ?_;refine Zc ?_;refine z8 _ R5 (zbh k hG hn hx) ?_;rintro _ rfl;refine Zd ?_;exact retF _ rfl (zi rfl) R2 rfl
theorem gd (k:Nat){h:HF}(hG:GK.G h){n:Nat}(hn:20≤n){x:Int}(hx: -9223372036854775808≤x∧x<9223372036854775808):VF (cal (k+5)) 132 [.int .i64 x] h n fun v=>v=.string ⟨⟨intT x⟩⟩:=by
 refine zw (fn:=Tryz.f132) R4 ?_;refine zN ?_;refine Zd ?_;refine zM ?_;refine z8 _ R5 (ml k hG hn hx) ?_;rintro _ rfl;refine Zd ?_;exact retF _ rfl (zi rfl) R2 rfl
end
section
structure SideD where
 A:List Rat
 lo:List UInt8
 hi:List UInt8
theorem Gro.same {lo n len sz:Nat}{h h':HF}{v:Value}{C:List Value}{e:TypeId}(g:Gro h lo n e sz v len C)(hs:∀b,3*lo≤b→b<3*n→gro b=true→h' b=h b):Gro h' lo n e sz v len C:=by
 cases g with
 |nil=>exact .nil
 |at_ hg hlo hb hr hl ho=>exact .at_ hg hlo hb ((hs _ hlo hb hg).trans hr) hl ho
section
variable {X:CtxF}{ops r:List Oper}{t:TF}{h:HF}{n:Nat}{w:List Nat}{Q:SV→Prop}{o:Oper}{d:Tmp}
theorem kw {e:TypeId}(cs:List Value){l c:Nat}(hw:zh ops t o=true∧o.dst=some d∧zm X.nt (some d)=true∧cls o.op=2∧mkE X.E o.op (evF t)=some ⟨cs,e,false,some (l,c)⟩)
  (k:∀h',h' (3*n+2)=some (.row cs e)→Ext n h h'→EO X ops r ⟨upd t d (.slice (some ⟨3*n+2,0,none⟩) l c),h',n+1,w⟩ Q):EO X ops (o::r) ⟨t,h,n,w⟩ Q:=by obtain ⟨hw,hd,hn,hc,hm⟩:=hw;exact wn ⟨hw,hd,hn,hc,hm⟩ (k _ (ze _ _ _) (Ext.upd zo))
end
end
section
structure RowD where
 A:List (List UInt8)
 lo:List UInt8
 hi:List UInt8
structure LPD where
 obj:List (List UInt8)
 rows:List RowD
 lower:List (List UInt8)
 upper:List (List UInt8)
structure VLP (p:LPD):Prop where
 n1:1≤p.obj.length
 n2:p.obj.length≤64
 ll:p.lower.length=p.obj.length
 lu:p.upper.length=p.obj.length
 lr:p.rows.length≤64
 ob:∀s∈p.obj,xz s
 bd:∀(j:Nat) lo hi,p.lower[j]?=some lo→p.upper[j]?=some hi→pairOk lo hi
 rw:∀r∈p.rows,pairOk r.lo r.hi∧(∀s∈r.A,xz s)∧r.A.length=p.obj.length
def Txt (a:Nat)(s:List UInt8):Prop:=s.length<500∧Sz a (z0 s)
structure LPB (a:Nat)(p:LPD):Prop where
 ob:∀s∈p.obj,Txt a s
 lw:∀s∈p.lower,Txt a s
 up:∀s∈p.upper,Txt a s
 rl:∀r∈p.rows,Txt a r.lo∧Txt a r.hi∧r.A.length<1000000∧∀s∈r.A,Txt a s
 n1:p.obj.length<1000000
 n2:p.rows.length<1000000
 n3:p.lower.length<1000000
 n4:p.upper.length<1000000
noncomputable def rowS (r:RowD):SideD:=⟨r.A.map z0,r.lo,r.hi⟩
noncomputable def zhv (p:LPD):List SideD:=p.rows.map rowS
theorem Keep.blk {lo n len sz b:Nat}{v:Value}{h h':HF}{C:List Value}{e:TypeId}(k:Keep v n h h')(g:Gro h lo n e sz v len C)(hb:gro b=false)(hl:b<3*n):h' b=h b:=by
 refine k b hl fun o l c e=>?_;cases g with
 |nil=>cases e
 |at_ hg hlo hb2 hr hl ho=>cases e;rw [hg] at hb;cases hb
end
section
variable {L U V b bytes m n' n0 u:Nat}{E:Env}{e sT xT:TypeId}{v v0 z:Value}{T:List Nat}{h' h0:HF}{x:Operand}{a:Option Addr}
def decN (V:Nat):List Nat:=if V=0 then [48] else decB V
theorem oO (V:Nat):decT V=(decN V).map UInt8.ofNat:=by
 unfold decT decN;split<;>rfl
theorem zjd:∀V,∀d∈decD V,d<10:=by
 intro V;induction V using Nat.strongRecOn with
 |_ V ih=>
  intro d hd;by_cases h0:V=0
  ·subst h0;rw [xm] at hd;exact absurd hd List.not_mem_nil
  rw [wq h0] at hd;rcases List.mem_append.1 hd with h|h
  ·exact ih (V/10) zo d h
  rw [List.mem_singleton.1 h];omega
theorem zjc (V:Nat):∀d∈decN V,d<256:=by
 intro d hd;unfold decN at hd;split at hd
 ·rw [List.mem_singleton.1 hd];decide
 obtain ⟨q,hq,rfl⟩:=List.mem_map.1 hd;have:=zjd V q hq;show 48+q<256;omega
theorem zcd (V:Nat):decN V≠[]:=by
 unfold decN;split
 ·simp
 rename_i h;intro e;unfold decB at e;rw [wq h] at e;simp at e
theorem cN {l:List Nat}(h:∀d∈l,d<256):(l.map UInt8.ofNat).map (fun b:UInt8=>Value.int .u8 (b.toNat:Int))=u8s l:=by
 induction l with
 |nil=>rfl
 |cons d l ih=>
  rw [List.map_cons,List.map_cons,ih fun x hx=>h x (by simp [hx]),gL];have:=h d (by simp);rw [show (UInt8.ofNat d).toNat=d from by rw [UInt8.toNat_ofNat'];omega]
theorem eE {h:HF}:argS h 1 (.string ⟨⟨decT V⟩⟩) (decN V).length (u8s (decN V)):=by
 refine ⟨?_,?_⟩
 ·show some (decT V).length=_;rw [oO,List.length_map]
 show some (((decT V).take (decN V).length).map fun b:UInt8=>Value.int .u8 (b.toNat:Int))=_;rw [oO,List.take_of_length_le (by rw [List.length_map];exact Nat.le_refl _),cN (zjc V)]
theorem em (hL:1≤L)(h1:U<10^L)(h2:10^(L-1)≤U):(decB U).length=L:=by
 unfold decB;rw [List.length_map];exact (eo L U hL h1 h2).1
def zl3 (v:Value)(b:Nat):Prop:=∃o l c,v=.slice (some ⟨b,o,none⟩) l c
def GroT (h:HF)(n:Nat)(v:Value)(T:List Nat):Prop:=Gro h 0 n 5 1 v T.length (u8s T)
theorem gD {h:HF}{n:Nat}{x:Value}{new:List Nat}(hu:E.und sT=some (.slice e))(he:e=5)(hi:E.inf e=some (1,bytes,z))(hz:(zr z).length=1)(h1:1≤bytes)(hg:GroT h n v T)(hx:argS h 1 x m (u8s new))(hm:1≤m)(hl:new.length=m)(hb:(T.length+m)*bytes≤1099511627776):
  ∃v' h' W,yk E h n sT v x=some (.val v' h' (n+1) W)∧GroT h' (n+1) v' (T++new)∧Keep v n h h'∧(∀b∈W,zl3 v b)∧ya n v':=by
 subst he;unfold GroT at*
 have hun:(u8s new).length=m*1:=by rw [rI,hl,Nat.mul_one]
 have eT:T.length+m=(T++new).length:=by rw [List.length_append,hl]
 have eU:u8s T++u8s new=u8s (T++new):=by unfold u8s;rw [List.map_append]
 generalize hT:T.length=tl at hg hb eT;generalize hc:u8s T=cc at hg eU;cases hg with
 |nil=>
  refine ⟨_,_,_,append_nil hu hi hz (Nat.le_refl _) h1 hx hm (by rw [Nat.zero_add] at hb;exact hb),?_,fun b hb _=>zj zo,fun b hb=>absurd hb List.not_mem_nil,by show 3*n≤3*n+1;omega⟩;rw [←eU,←eT,Nat.zero_add,List.nil_append];exact .at_ (ov n) zo zo (ze _ _ _) hun (rn _)
 | @at_ b len _ hg2 hlo hb2 hr hl2 ho2=>
  refine ⟨_,_,_,qx hu hi hz (Nat.le_refl _) h1 hx hm hb hg2 hr hl2 (xZ ho2 (rn _)) hun,?_,fun k hk hne=>?_,fun k hk=>?_,by show 3*n≤3*n+1;omega⟩
  ·rw [←eU,←eT];exact .at_ (ov n) zo zo (ze _ _ _) (by rw [List.length_append,hl2,hun];omega) (xZ ho2 (rn _))
  ·rw [zj zo,zj (fun e=>hne 0 tl tl (by rw [e]))]
  rw [List.mem_singleton.1 hk];exact ⟨_,_,_,rfl⟩
structure AS (h0:HF)(n0:Nat)(v0:Value)(h:HF)(n:Nat)(w:List Nat)(v:Value)(T:List Nat):Prop where
 hn:n0≤n
 keep:Keep v0 n0 h0 h
 hw:∀b∈w,zl3 v0 b
 g:GroT h n v T
 or:v=v0∨ya n0 v
theorem AS.refl (g:GroT h0 n0 v0 T):AS h0 n0 v0 h0 n0 [] v0 T:=⟨Nat.le_refl _,fun _ _ _=>rfl,fun b hb=>absurd hb List.not_mem_nil,g,Or.inl rfl⟩
theorem AS.ext {h:HF}{n:Nat}{w:List Nat}(a:AS h0 n0 v0 h n w v T)(x:Ext n h h')(hn:n≤n'):AS h0 n0 v0 h' n' w v T:=
 ⟨Nat.le_trans a.hn hn,fun b hb hne=>(x b (by have:=a.hn;omega)).trans (a.keep b hb hne),a.hw,a.g.ext x hn,a.or⟩
theorem AS.only {h:HF}{n:Nat}{w:List Nat}(a:AS h0 n0 v0 h n w v T)(o:Only b h h')(hb:3*n0≤b)(hg:gro b=false):AS h0 n0 v0 h' n w v T:=
 ⟨a.hn,fun k hk hne=>(o k zo).trans (a.keep k hk hne),a.hw,a.g.same fun k _ _ hk=>o k fun e=>(by rw [e,hg] at hk;cases hk),a.or⟩
theorem AS.trans {h1 h2:HF}{n1 n2:Nat}{w1 w2:List Nat}{v1 v2:Value}{T1 T2:List Nat}(a:AS h0 n0 v0 h1 n1 w1 v1 T1)(b:AS h1 n1 v1 h2 n2 w2 v2 T2):AS h0 n0 v0 h2 n2 (addW n0 w2 w1) v2 T2:=by
 have hn:=a.hn;refine ⟨Nat.le_trans a.hn b.hn,fun k hk hne=>(b.keep k zo fun o l c e=>?_).trans (a.keep k hk hne),fun k hk=>?_,b.g,?_⟩
 ·rcases a.or with h|h
  ·exact hne o l c (h▸e)
  rw [e] at h;have h:3*n0≤k:=h;omega
 ·rcases yF.1 hk with h|⟨h,h3⟩
  ·exact a.hw k h
  obtain ⟨o,l,c,e⟩:=b.hw k h;rcases a.or with h4|h4
  ·exact ⟨o,l,c,h4▸e⟩
  rw [e] at h4;have h4:3*n0≤k:=h4;omega
 rcases b.or with h|h
 ·rw [h];exact a.or
 exact .inr (h.mono hn)
section
variable {X:CtxF}{ops r:List Oper}{t:TF}{h:HF}{n:Nat}{w:List Nat}{Q:SV→Prop}{o:Oper}{d:Tmp}
theorem pL {s:Operand}{new:List Nat}(hw:zh ops t o=true∧o.dst=some d∧zm X.nt (some d)=true∧o.op=.call {callee:=.builtin .append,args:=#[s,x],argTypes:=#[sT,xT]}∧(match X.E.und xT with|some (.int _)=>false|none=>false|_=>true)=true∧X.E.und sT=some (.slice e)∧e=5∧X.E.inf e=some (1,bytes,z)∧(zr z).length=1)(h1:1≤bytes)(hs:evF t s=v)(hx:argS h 1 (evF t x) m (u8s new))(hm:1≤m)(hl:new.length=m)(hb:(T.length+m)*bytes≤1099511627776)(a:AS h0 X.n0 v0 h n w v T)
  (k:∀v' h' w',AS h0 X.n0 v0 h' (n+1) w' v' (T++new)→Keep v n h h'→EO X ops r ⟨upd t d v',h',n+1,w'⟩ Q):EO X ops (o::r) ⟨t,h,n,w⟩ Q:=by
 obtain ⟨hw,hd,hn,ho,hxT,hu,he,hi,hz⟩:=hw;obtain ⟨v',h',W,h2,h3,h4,h5,h6⟩:=gD hu he hi hz h1 a.g hx hm hl hb;refine yJ ⟨hw,hd,hn,ho,hxT⟩ (by rw [hs];exact h2) ?_;have b:AS h n v h' (n+1) W v' (T++new):=⟨Nat.le_succ _,h4,h5,h3,.inr h6⟩;exact k v' h' _ (a.trans b) h4
end
theorem GroT.shape {h:HF}{n:Nat}(g:GroT h n v T):∃a,v=.slice a T.length T.length:=by
 obtain ⟨a,e,_⟩:=Gro.shape g;exact ⟨a,e⟩
theorem GroT.keepB {h:HF}{n:Nat}(g:GroT h n v T)(k:Keep v n h h')(hb:gro b=false)(hl:b<3*n):h' b=h b:=k.blk g hb hl
theorem cT (k:Nat){h:HF}(hG:GK.G h){n:Nat}(hn:20≤n)(hu:u<18446744073709551616)(g:GroT h n (.slice a T.length T.length) T)(hT:T.length<1000000000):CF (cal (k+3)) 191 [.slice a T.length T.length,.int .u64 (u:Int),.int .i64 10] h n fun v h' n' w=>AS h n (.slice a T.length T.length) h' n' w v (T++decN u):=by
 refine zk (fn:=Tryz.f191) R4 ?_;have a0:=AS.refl g;have hdl:(decN u).length≤20:=by
  unfold decN;split
  ·decide
  unfold decB;rw [List.length_map];exact wc 20 u zo
 refine zN ?_;refine Zd ?_;refine sh ?_;refine Zb ?_;by_cases hsm:u<100
 ·refine sh ?_;refine Zb ?_;refine Zc ?_;refine wF (a:=(u:Int)) R7 zo ?_;refine z8 _ R5 (mP (k+1) _ _ hsm) ?_;rintro _ rfl;refine pL R9 zb rfl (eE (V:=u)) (by have:=zcd u;cases hh:decN u with|nil=>exact absurd hh this|cons _ _=>simp) rfl zo a0 ?_;intro v' h' w' a1 _;obtain ⟨a',rfl⟩:=a1.g.shape;refine Zd ?_;exact retH [.slice a' _ _] R3 a1
 have hu0:u≠0:=zo;refine sh ?_;refine Za ?_;refine we (List.replicate 24 (.int .u8 0)) R6 ?_;intro h1 p1 x1;refine Zf ?_;refine z8 _ R5 (wV k (sw hG x1 hn) _ hu hu0) ?_;rintro _ ⟨L,rfl,hL1,hL2,hU1,hU2⟩;refine Zd ?_;refine zM ?_;refine u9 (j:=L) R8 rfl (yz n) zo ?_;refine zM ?_;refine zu _ R5 (lZ (k+1) (h:=h1) (n:=n+1) (B:=3*n+2) (o:=0) (L:=L) (U:=u) zo p1 (by rw [List.length_replicate];omega) zo hU1 zo) ?_;rintro v h2 _ W ⟨rfl,hW,c,f⟩;rw [yc fun b hb=>by rw [hW b hb];show 3*n≤_;omega];have hcl:c.length=24:=by rw [f.len,List.length_replicate]
 have a2:=(a0.ext x1 zs).only f.oth zo (yz n);have hcs:=f.cells (by rw [List.length_replicate];omega) hL1 hU1 hU2;have hdn:decN u=decB u:=by unfold decN;rw [if_neg hu0]
 rw [←hdn] at hcs;refine zN ?_;refine Zc ?_;refine u9 (j:=L) R8 rfl (yz n) zo ?_;refine pL R9 zb rfl (vJ f.row hcs zo zo) hL1 (by rw [hdn];exact em hL1 hU1 hU2) zo a2 ?_;intro v' h' w' a3 _;obtain ⟨a',rfl⟩:=a3.g.shape;refine Zd ?_;exact retH [.slice a' _ _] R3 a3
theorem gF (k:Nat){h:HF}(hG:GK.G h){n:Nat}(hn:20≤n)(hu:u<18446744073709551616)(g:GroT h n (.slice a T.length T.length) T)(hT:T.length<1000000000):CF (cal (k+4)) 198 [.slice a T.length T.length,.int .u64 (u:Int),.int .i64 10] h n fun v h' n' w=>AS h n (.slice a T.length T.length) h' n' w v (T++decN u):=by
 refine zk (fn:=Tryz.f198) R4 ?_;refine zN ?_;refine Zd ?_;refine Zc ?_;refine zM ?_;refine zu _ R5 (cT k hG hn hu g hT) ?_;intro v h1 n1 w1 a1;obtain ⟨a',rfl⟩:=a1.g.shape;have a2:=(AS.refl g).trans a1;refine Zd ?_;exact retH [.slice a' _ _] R3 a2
end
section
variable {B b cap len m u:Nat}{c c0 new:List Value}{T:List Nat}
section
variable {E:Env}{h:HF}{n:Nat}{sT e:TypeId}{bytes:Nat}{z x:Value}
theorem tC {e':TypeId}(hu:E.und sT=some (.slice e)∧E.inf e=some (1,bytes,z)∧(zr z).length=1)(h1:1≤bytes)(hx:argS h 1 x m new)(hb:(len+m)*bytes≤1099511627776)(hm:new.length=m∧1≤m)(hc:len+m≤cap)(hr:h b=some (.row c e'))(hl:len+m≤c.length)(ho:ones new=true):
  yk E h n sT (.slice (some ⟨b,0,none⟩) len cap) x=some (.val (.slice (some ⟨b,0,none⟩) (len+m) cap) (upd h b (some (.row (zn c len new) e'))) n [b]):=by
 obtain ⟨hu,hi,hz⟩:=hu;obtain ⟨hl',hcx⟩:=hx;have c1:Nat.ble ((len+m)*bytes) 1099511627776=true:=Nat.ble_eq_true_of_le hb;have c2:Nat.beq (zr z).length 1=true:=by rw [hz];exact Nat.beq_refl _
 have c3:Nat.ble 1 1=true:=rfl;have c4:Nat.ble 1 bytes=true:=Nat.ble_eq_true_of_le h1;have c5:Nat.ble (len+m) cap=true:=Nat.ble_eq_true_of_le hc;have c6:ub h ((⟨b,0,none⟩:Addr).add (len*1)) new=some (upd h b (some (.row (zn c len new) e'))):=by
  rw [wm,Nat.zero_add,Nat.mul_one,rM hr zo ho]
 obtain ⟨v,r,rfl⟩:∃v r,new=v::r:=by
  cases new with
  |nil=>simp at hm;omega
  |cons v r=>exact ⟨v,r,rfl⟩
 simp only [yk,hu,hi,hl',hcx,c1,c2,c3,c4,c5,Bool.and_self,wZ,c6]
end
def BufT (T:List Nat)(h:HF)(n B cap:Nat)(e:TypeId)(c0:List Value)(N:List Nat)(v:Value)(h':HF)(n':Nat)(w:List Nat):Prop:=
 v=.slice (some ⟨B,0,none⟩) (T++N).length cap∧n≤n'∧(∀b∈w,b=B)∧(∀b,b<3*n→b≠B→h' b=h b)∧∃c,h' B=some (.row c e)∧c.length=c0.length∧c.take (T++N).length=u8s (T++N)
theorem wQ {N:List Nat}(ht:c.take T.length=u8s T)(hl:T.length+N.length≤c.length):(zn c T.length (u8s N)).take (T++N).length=u8s (T++N)∧(zn c T.length (u8s N)).length=c.length:=by
 have h:=pC (c:=u8s N) (cs:=c) (o:=T.length) (by rw [rI];exact hl);rw [rI,ht] at h;rw [List.length_append];exact ⟨h.1.trans (by simp [u8s]),h.2⟩
theorem ni (k:Nat){h:HF}(hG:GK.G h){n:Nat}(hn:20≤n){e:TypeId}(hT:c0.take T.length=u8s T)(hB:B<3*n)(hrow:h B=some (.row c0 e))(hc0:cap=c0.length∧T.length+20≤cap∧cap<1000000)(hu:u<18446744073709551616):
  CF (cal (k+3)) 191 [.slice (some ⟨B,0,none⟩) T.length cap,.int .u64 (u:Int),.int .i64 10] h n fun v h' n' w=>BufT T h n B cap e c0 (decN u) v h' n' w:=by
 refine zk (fn:=Tryz.f191) R4 ?_;have hdl:(decN u).length≤20:=by
  unfold decN;split
  ·decide
  unfold decB;rw [List.length_map];exact wc 20 u zo
 have hd1:1≤(decN u).length:=by
  have:=zcd u;cases hh:decN u with
  |nil=>exact absurd hh this
  |cons _ _=>simp
 refine zN ?_;refine Zd ?_;refine sh ?_;refine Zb ?_;by_cases hsm:u<100
 ·refine sh ?_;refine Zb ?_;refine Zc ?_;refine wF (a:=(u:Int)) R7 zo ?_;refine z8 _ R5 (mP (k+1) _ _ hsm) ?_;rintro _ rfl;refine yJ R5 (tC R3 zb (eE (V:=u)) zo ⟨rI _,hd1⟩ zo hrow zo (rn _)) ?_;rw [tD (by show B<3*n;exact hB)];refine Zd ?_;obtain ⟨t1,t2⟩:=wQ (N:=decN u) hT zo;refine retH [.slice (some ⟨B,0,none⟩) (T.length+(decN u).length) cap] R3 ⟨by rw [List.length_append];rfl,Nat.le_refl _,fun b hb=>List.mem_singleton.1 hb,fun b _ hne=>zj hne,_,ze _ _ _,t2,t1⟩
 have hu0:u≠0:=zo;refine sh ?_;refine Za ?_;refine we (List.replicate 24 (.int .u8 0)) R6 ?_;intro h1 p1 x1;refine Zf ?_;refine z8 _ R5 (wV k (sw hG x1 hn) _ hu hu0) ?_;rintro _ ⟨L,rfl,hL1,hL2,hU1,hU2⟩;refine Zd ?_;refine zM ?_;refine u9 (j:=L) R8 rfl (yz n) zo ?_;refine zM ?_;refine zu _ R5 (lZ (k+1) (h:=h1) (n:=n+1) (B:=3*n+2) (o:=0) (L:=L) (U:=u) zo p1 (by rw [List.length_replicate];omega) zo hU1 zo) ?_;rintro v h2 _ W ⟨rfl,hW,c,f⟩;rw [yc fun b hb=>by rw [hW b hb];show 3*n≤_;omega];have hcl:c.length=24:=by rw [f.len,List.length_replicate]
 have hcs:=f.cells (by rw [List.length_replicate];omega) hL1 hU1 hU2;have hdn:decN u=decB u:=by unfold decN;rw [if_neg hu0]
 rw [←hdn] at hcs;have hLd:(decN u).length=L:=by rw [hdn];exact em hL1 hU1 hU2
 have hrow2:h2 B=some (.row c0 e):=(f.oth B zo).trans ((x1 B hB).trans hrow);refine zN ?_;refine Zc ?_;refine u9 (j:=L) R8 rfl (yz n) zo ?_;refine yJ R5 (tC R3 zb (vJ f.row hcs zo zo) zo ⟨by rw [rI,hLd],hL1⟩ zo hrow2 zo (rn _)) ?_;rw [tD (by show B<3*n;exact hB)];refine Zd ?_;obtain ⟨t1,t2⟩:=wQ (N:=decN u) hT zo;refine retH [.slice (some ⟨B,0,none⟩) (T.length+L) cap] R3 ⟨by rw [List.length_append,hLd];rfl,by show n≤n+1;omega,fun b hb=>List.mem_singleton.1 hb,fun b hb hne=>(zj hne).trans ((f.oth b zo).trans (x1 b hb)),_,ze _ _ _,t2,t1⟩
end
section
variable {h h':HF}{cx l lx m n n':Nat}{a ax:Option Addr}{T:List Nat}{v:Value}
theorem G_fr (hG:GK.G h)(hf:∀b,b<60→gro b=false→h' b=h b):GK.G h':=by
 obtain ⟨g1,g2,g3⟩:=hG;exact ⟨(hf _ zo rfl).trans g1,(hf _ zo rfl).trans g2,(hf _ zo rfl).trans g3⟩
theorem nh (k:Nat)(hG:GK.G h)(hn:20≤n)(g:GroT h n (.slice a T.length T.length) T)(hT:T.length<100000000){L:List Nat}(hs:Sl h n 1 (.slice ax lx cx) (u64s L))(nL:NW L)(hl:L.length≤1):
  CF (cal (k+7)) 160 [.slice a T.length T.length,.slice ax lx cx] h n fun v h' n' w=>AS h n (.slice a T.length T.length) h' n' w v (T++decN (wv L)):=by
 refine zk (fn:=Tryz.f160) R4 ?_;have elx:=hs.lenW;subst elx;refine zN ?_;refine Zd ?_;by_cases h0:L=[]
 ·subst h0;refine sh ?_;refine Zb ?_;refine zM ?_;refine kw [.int .u8 48] (l:=1) (c:=1) R5 ?_;intro h1 p1 x1;refine pL (m:=1) (new:=[48]) R9 zb rfl (yy p1 R2) (Nat.le_refl _) rfl zo ((AS.refl g).ext x1 zs) ?_;intro v' h' w' a1 _;obtain ⟨a',rfl⟩:=a1.g.shape;refine Zd ?_;exact retH [.slice a' _ _] R3 a1
 have hlen0:L.length≠0:=fun e=>h0 (List.length_eq_zero_iff.1 e);refine sh ?_;refine Za ?_;by_cases h1:L.length=1
 ·obtain ⟨w,rfl⟩:=List.length_eq_one_iff.1 h1;have hw64:w<18446744073709551616:=nL.1 w (by simp);refine sh ?_;refine Zb ?_;refine Zc ?_;refine xi (f:=fun d:Nat=>Value.int .u64 (d:Int)) (j:=0) (dv:=w) R7 hs R2 rfl (fun _=>rfl) R4 fun _=>?_;refine zu _ R5 (gF (k+2) hG hn hw64 g zo) ?_;intro v h1 n1 w1 a1;obtain ⟨a',rfl⟩:=a1.g.shape;have a2:=(AS.refl g).trans a1;refine Zd ?_;rw [px];exact retH [.slice a' _ _] R3 a2
 omega
def intN (x:Int):List Nat:=(if x<0 then [45] else [])++decN x.natAbs
theorem za3 (x:Int):(intN x).map UInt8.ofNat=intT x:=by
 unfold intN intT;rw [List.map_append,←oO];congr 1;split<;>rfl
theorem IW.few {b:Bool}{c:Nat}{x:Int}(i:IW h n b a l c x)(hx:x.natAbs<2^m)(hm:m≤64):∃L,Sl h n 1 (.slice a l c) (u64s L)∧NW L∧L.length≤1∧wv L=x.natAbs:=by
 obtain ⟨_,L,h1,h2,h3⟩:=i;refine ⟨L,h1,h2,h2.len_le (k:=1) ?_,h3⟩;rw [h3];refine Nat.lt_of_lt_of_le hx (Nat.le_trans (Nat.pow_le_pow_right zd hm) ?_);decide+kernel
theorem zg9 {L:List Nat}{o:Nat}(hm:m≠0)(hl:L.length=m)(h:((u8s T).drop o).take m=u64s L):False:=by
 obtain ⟨d,L',rfl⟩:∃d L',L=d::L':=by
  cases L with
  |nil=>exact absurd hl.symm hm
  |cons d L'=>exact ⟨d,L',rfl⟩
 have h1:Value.int .u64 (d:Int)∈((u8s T).drop o).take m:=by rw [h];exact List.mem_cons_self
 have h2:=List.mem_of_mem_drop (List.mem_of_mem_take h1);obtain ⟨q,_,e⟩:=List.mem_map.1 h2;cases e
theorem Sl.kept {u:Value}{L:List Nat}(s:Sl h n 1 v (u64s L))(k:Keep u n h h')(g:GroT h n u T)(hn:n≤n'):Sl h' n' 1 v (u64s L):=by
 generalize hL:u64s L=cl at s;cases s with
 |nil ha=>exact .nil (tn ha hn)
 | @at_ b off len cap x cs c2 hb hx hc hcap hl he=>
  by_cases h0:len=0
  ·subst h0;have:cl=[]:=by rw [←he];simp
   subst this;exact .nil (.inr ⟨_,_,_,rfl,zo⟩)
  refine .at_ zo ((k b hb fun o l c e=>?_).trans hx) hc hcap hl he;unfold GroT at g;generalize T.length=tl at g;generalize hT:u8s T=tc at g;cases g with
  |nil=>cases e
  |at_ hg hlo hb2 hr hl2 ho=>
   cases e;rw [hr] at hx;cases hx;injection hc with hc
   subst hc;have hll:L.length=len*1:=by
    have:=congrArg List.length he;rw [←hL,yg,List.length_take,List.length_drop] at this;omega
   rw [←hT,←hL] at he;exact zg9 zo hll he
theorem ng (k:Nat)(hG:GK.G h)(hn:20≤n)(g:GroT h n (.slice a T.length T.length) T)(hT:T.length<10000000){b:Bool}{x:Int}(i:IW h n b ax lx cx x)(hx:x.natAbs<2^m)(hm:m≤64):
  CF (cal (k+8)) 134 [.agg #[.bool b,.slice ax lx cx],.slice a T.length T.length] h n fun v h' n' w=>AS h n (.slice a T.length T.length) h' n' w v (T++intN x):=by
 refine zk (fn:=Tryz.f134) R4 ?_;refine zN ?_;refine tF [.bool b,.slice ax lx cx] R5 ?_;intro h1 p1 x1;have i1:=i.ext x1 zs;obtain ⟨L,hs,nL,hl,hv⟩:=i1.few hx hm;have a1:=(AS.refl g).ext x1 zs;refine Zd ?_;refine zM ?_;refine zI (v:=.bool b) R5 (zF rfl p1 R2) ?_;refine zN ?_;cases b
 ·have hx0:=i.ge;refine Za ?_;refine Zc ?_;refine zI (v:=.slice ax lx cx) R5 (zF rfl p1 R2) ?_;refine zu _ R5 (nh k (sw hG x1 hn) (n:=n+1) zo a1.g zo hs nL hl) ?_;intro v h3 n3 w3 a2;obtain ⟨a',rfl⟩:=a2.g.shape;have a3:=a1.trans a2;rw [hv] at a3;refine Zd ?_;rw [show intN x=decN x.natAbs by unfold intN;rw [if_neg zo];rfl];exact retH [.slice a' _ _] R3 (by rw [hv];exact a3)
 have hx0:=i.lt;refine Zb ?_;refine zM ?_;refine kw [.int .u8 45] (l:=1) (c:=1) R5 ?_;intro h2 p2 x2;have p12:h2 (3*n+2)=_:=(x2 _ zo).trans p1;refine pL (m:=1) (new:=[45]) R9 zb rfl (yy p2 R2) (Nat.le_refl _) rfl zo (a1.ext x2 zs) ?_;intro v' h3 w3 a2 k3;obtain ⟨a',rfl⟩:=a2.g.shape;have gg:GroT h2 (n+1+1) (.slice a T.length T.length) T:=(g.ext x1 zs).ext x2 zs;have p13:h3 (3*n+2)=_:=(gg.keepB k3 (yz n) zo).trans p12;have hG3:GK.G h3:=G_fr (sw hG (x1.trans x2 zs) hn) fun b hb hg=>gg.keepB k3 hg zo;have hs3:Sl h3 (n+1+1+1) 1 (.slice ax lx cx) (u64s L):=(hs.ext x2 zs).kept k3 gg zs;refine Zd ?_;refine Zc ?_;refine zI (v:=.slice ax lx cx) R5 (zF rfl p13 R2) ?_;refine zu _ R5 (nh k hG3 (n:=n+1+1+1) zo a2.g (by rw [List.length_append];simp;omega) hs3 nL hl) ?_;intro v h4 n4 w4 a4;obtain ⟨a5,rfl⟩:=a4.g.shape;have a6:=a2.trans a4;rw [hv] at a6;refine Zd ?_;rw [show T++intN x=T++[45]++decN x.natAbs by unfold intN;rw [if_pos hx0,List.append_assoc]];exact retH [.slice a5 _ _] R3 (by rw [hv];exact a6)
end
section
variable {h h0:HF}{cx l lx m n n0:Nat}{a ax:Option Addr}{T w:List Nat}{v:Value}{q:Rat}
theorem GroT.text (g:GroT h n (.slice a T.length T.length) T):argS h 1 (.slice a T.length T.length) T.length (u8s T):=uB (Gro.sl g)
theorem GroT.nil (h:HF)(n:Nat):GroT h n (.slice none ([]:List Nat).length ([]:List Nat).length) []:=Gro.nil
theorem ze7:∀(m V:Nat),V<2^m→(decD V).length≤m:=by
 intro m;induction m with
 |zero=>(intro V h;have:V=0:=by simpa using h);subst this;simp [decD]
 |succ m ih=>
  intro V h;by_cases h0:V=0
  ·subst h0;simp [decD]
  rw [decD];simp only [h0,if_false,↓reduceDIte,↓reduceIte,List.length_cons,List.length_append,List.length_singleton,List.length_nil];have:=ih (V/10) (by rw [Nat.pow_succ] at h;omega);omega
theorem zep {x:Int}(h:x.natAbs<2^m):(intN x).length≤m+2:=by
 have h1:(decN x.natAbs).length≤m+1:=by
  unfold decN;split
  ·simp
  have:=ze7 m _ h;simp only [decB,List.length_map,List.length_reverse];omega
 unfold intN;rw [List.length_append];split<;>simp<;>omega
theorem AS.w_nil {c:Nat}(a:AS h0 n0 (.slice none l c) h n w v T):w=[]:=by
 cases w with
 |nil=>rfl
 |cons b w=>
  obtain ⟨o,l,c,e⟩:=a.hw b List.mem_cons_self;cases e
theorem bV (k:Nat)(hG:GK.G h)(hn:20≤n){b:Bool}{x:Int}(i:IW h n b ax lx cx x)(hx:x.natAbs<2^m)(hm:m≤64):
  VF (cal (k+9)) 133 [.agg #[.bool b,.slice ax lx cx]] h n fun v=>v=.string ⟨⟨intT x⟩⟩:=by
 refine zw (fn:=Tryz.f133) R4 ?_;refine zN ?_;refine tF [.bool b,.slice ax lx cx] R5 ?_;intro h1 p1 x1;have i1:=i.ext x1 zs;refine Zd ?_;refine zI (v:=.agg #[.bool b,.slice ax lx cx]) R5 (zB R2 p1 rfl zb rfl) ?_;refine zu _ R5 (ng k (sw hG x1 hn) (n:=n+1) zo (GroT.nil h1 (n+1)) (by show 0<10000000;omega) i1 hx hm) ?_;intro v h2 n2 w2 a2;obtain ⟨a',rfl⟩:=a2.g.shape;have hw2:=a2.w_nil;subst hw2;refine rN R5 (uY (B:=[]++intN x) R3 a2.g.text) ?_;refine Zd ?_;refine retF _ rfl (zi rfl) R2 ?_;show Value.string _=_;rw [List.nil_append,za3]
theorem kv {w:Nat}(hw:w≤9223372036854775808)(h0:0<w):IntKind.wrap .i64 ((18446744073709551616-w:Nat):Int)= -(w:Int):=by
 simp only [IntKind.wrap,IntKind.signed,IntKind.bits];simp;omega
theorem zeq (k:Nat){b:Bool}{x:Int}(i:IW h n b ax lx cx x):
  VF (cal (k+1)) 131 [.agg #[.bool b,.slice ax lx cx]] h n fun v=>∃y ok,v=.tuple #[.int .i64 y,.bool ok]∧(ok=true→y=x∧ -9223372036854775808≤x∧x<9223372036854775808):=by
 refine zw (fn:=Tryz.f131) R4 ?_;obtain ⟨eb,L,hs,nL,hv⟩:=i;have elx:=hs.lenW;subst elx;refine zN ?_;refine tF [.bool b,.slice ax L.length cx] R5 ?_;intro h1 p1 x1;have hs1:=hs.ext x1 zs;refine Zc ?_;refine Zf ?_;refine zI (v:=.slice ax L.length cx) R5 (zF rfl p1 R2) ?_;by_cases h0:L=[]
 ·subst h0;have hx0:x=0:=by
   have:x.natAbs=0:=hv.symm.trans rfl;omega
  refine sh ?_;refine Zb ?_;refine sh ?_;exact retF [.int .i64 0,.bool true] rfl (yM rfl (yM rfl qJ)) R2 ⟨_,_,rfl,fun _=>⟨hx0.symm,zo,zo⟩⟩
 have hl0:L.length≠0:=fun e=>h0 (List.length_eq_zero_iff.1 e);obtain ⟨w,L',rfl⟩:∃w L',L=w::L':=by
  cases L with
  |nil=>exact absurd rfl h0
  |cons w L'=>exact ⟨w,L',rfl⟩
 have hw64:w<18446744073709551616:=nL.1 w (by simp);refine sh ?_;refine Za ?_;refine zM ?_;refine zI (v:=.slice ax (w::L').length cx) R5 (zF rfl p1 R2) ?_;refine xi (f:=fun d:Nat=>Value.int .u64 (d:Int)) (j:=0) (dv:=w) R7 hs1 R2 rfl (fun _=>rfl) R4 fun _=>?_;refine Zd ?_;refine zM ?_;refine zI (v:=.slice ax (w::L').length cx) R5 (zF rfl p1 R2) ?_;by_cases h1:L'=[]
 ·subst h1;rw [px] at hv;have hw0:w≠0:=nL.last (l:=[]);refine zM ?_;refine kJ R6 (by show ¬(((1:Nat):Int)>1);omega) ?_;refine Zd ?_;refine Za ?_;refine zM ?_;refine zI (v:=.bool b) R5 (zF rfl p1 R2) ?_;cases b
  ·have hx0:0≤x:=Int.not_lt.1 (of_decide_eq_false eb.symm);refine sh ?_;refine Za ?_;refine zM ?_;refine zI (v:=.bool false) R5 (zF rfl p1 R2) ?_;by_cases hlt:w≤9223372036854775807
   ·refine Zc ?_;refine zM ?_;refine qH R6 zo ?_;refine Zc ?_;refine zN ?_;refine Zb ?_;refine zM ?_;refine wF (a:=(w:Int)) R7 zo ?_;refine Zc ?_;refine zN ?_;exact retF [.int .i64 (w:Int),.bool true] rfl (yM rfl (yM rfl qJ)) R2 ⟨_,_,rfl,fun _=>⟨zo,zo,zo⟩⟩
   refine Zc ?_;refine zM ?_;refine pI R6 zo ?_;refine Zc ?_;refine zN ?_;refine Za ?_;refine Zc ?_;refine zN ?_;exact retF [.int .i64 0,.bool false] rfl (yM rfl (yM rfl qJ)) R2 ⟨_,_,rfl,fun e=>by cases e⟩
  have hx0:x<0:=of_decide_eq_true eb.symm;by_cases hlt:w≤9223372036854775808
  ·refine Zc ?_;refine qH R6 zo ?_;refine Zc ?_;refine zN ?_;refine Zb ?_;refine zM ?_;refine zA (v:=.int .u64 ((18446744073709551616-w:Nat):Int)) ⟨rfl,rfl,rfl,rfl,(zah hw64 hw0)⟩ ?_;refine wG (ik:=.i64) (a:= -(w:Int)) R6 (by show some (Value.int .i64 (IntKind.wrap .i64 _))=_;rw [kv hlt zo]) ?_;refine Zc ?_;refine zN ?_;exact retF [.int .i64 (-(w:Int)),.bool true] rfl (yM rfl (yM rfl qJ)) R2 ⟨_,_,rfl,fun _=>⟨zo,zo,zo⟩⟩
  refine Zc ?_;refine pI R6 zo ?_;refine Zc ?_;refine zN ?_;refine Za ?_;refine zM ?_;refine zI (v:=.bool true) R5 (zF rfl p1 R2) ?_;refine sh ?_;refine Za ?_;refine Zc ?_;refine zN ?_;exact retF [.int .i64 0,.bool false] rfl (yM rfl (yM rfl qJ)) R2 ⟨_,_,rfl,fun e=>by cases e⟩
 have hl2:2≤(w::L').length:=by
  cases L' with
  |nil=>exact absurd rfl h1
  |cons _ _=>simp
 refine zM ?_;refine nR R6 zo ?_;refine Zd ?_;refine Zb ?_;refine Zc ?_;refine zN ?_;exact retF [.int .i64 0,.bool false] rfl (yM rfl (yM rfl qJ)) R2 ⟨_,_,rfl,fun e=>by cases e⟩
theorem rZ (h:denZ q=0):ratT q=intT q.num:=by
 unfold ratT intT;rw [if_pos (yw.1 h),List.append_nil]
theorem kU (h:¬denZ q=0):ratT q=(intN q.num++[47]++intN (denZ q)).map UInt8.ofNat:=by
 rw [List.map_append,List.map_append,za3,za3,vm h];unfold ratT intT;rw [if_neg (mt yw.2 h),if_neg (show ¬((q.den:Nat):Int)<0 by omega)];simp only [List.append_assoc,Int.natAbs_natCast];rfl
theorem kV (k:Nat)(hG:GK.G h)(hn:20≤n){b d:Bool}{e:Option Addr}{c f g:Nat}(i:IW h n b a l c q.num)(j:IW h n d e f g (denZ q))(hq:Sz m q)(hm:m≤64):
  VF (cal (k+10)) 89 [.agg #[.bool b,.slice a l c,.bool d,.slice e f g]] h n fun v=>v=.string ⟨⟨ratT q⟩⟩:=by
 refine zw (fn:=Tryz.f89) R4 ?_;refine zN ?_;refine tF [.bool b,.slice a l c,.bool d,.slice e f g] R5 ?_;intro h1 p1 x1;have i1:=i.ext x1 zs;have j1:=j.ext x1 zs;have hG1:=sw hG x1 hn;refine Zd ?_;refine zM ?_;refine zI (v:=.agg #[.bool d,.slice e f g]) R5 (zB R2 p1 rfl zb rfl) ?_;refine z8 _ R5 (fK (k+8) j1) ?_;rintro _ ⟨z,rfl,hz⟩;refine zN ?_;cases z
 ·have hz:¬denZ q=0:=fun e=>by cases hz.2 e
  refine Za ?_;refine zM ?_;refine zI (v:=.agg #[.bool b,.slice a l c]) R5 (zB R2 p1 rfl zb rfl) ?_;refine zu _ R5 (ng (k+1) hG1 (n:=n+1) zo (GroT.nil h1 (n+1)) (by show 0<10000000;omega) i1 hq.1 hm) ?_;intro v h2 n2 w2 a2;obtain ⟨a',rfl⟩:=a2.g.shape;have hw2:=a2.w_nil;subst hw2;have x2:Ext (n+1) h1 h2:=fun b hb=>a2.keep b hb fun o l c e=>by cases e
  have hn2:=a2.hn;refine kw [.int .u8 47] (l:=1) (c:=1) R5 ?_;intro h3 p3 x3;have gT:GroT h3 (n2+1) _ _:=a2.g.ext x3 zs;have hln:(intN q.num).length≤1922:=Nat.le_trans (zep hq.1) zo;have hA:AS h (ctx (k+9) n 0).n0 (.slice none 0 0) h3 (n2+1) [] _ ([]++intN q.num):=⟨by show n≤n2+1;omega,fun b hb _=>(x3 b (by have hb:b<3*n:=hb;omega)).trans ((x2 b (by have hb:b<3*n:=hb;omega)).trans (x1 b hb)),fun b hb=>absurd hb List.not_mem_nil,gT,by rcases a2.or with h|h;exact .inl h;exact .inr (h.mono (Nat.le_succ n))⟩;refine pL (m:=1) (new:=[47]) R9 zb rfl (yy p3 R2) (Nat.le_refl _) rfl (by show (([]++intN q.num).length+1)*1≤_;rw [List.nil_append];omega) hA ?_;intro v' h4 w4 a4 k4;obtain ⟨a5,rfl⟩:=a4.g.shape;have hw4:=a4.w_nil;subst hw4;have p4:h4 (3*n+2)=_:=(gT.keepB k4 (yz n) zo).trans ((x3 _ zo).trans ((x2 _ zo).trans p1));have x13:Ext (n+1) h1 h3:=x2.trans x3 zo;have hG3:GK.G h3:=sw hG1 x13 zo;have hG4:GK.G h4:=G_fr hG3 fun b hb hg=>gT.keepB k4 hg zo;obtain ⟨ej,Lj,hsj,nLj,hvj⟩:=j1.ext x13 (show n+1≤n2+1 by omega);have j4:IW h4 (n2+1+1) d e f g (denZ q):=⟨ej,Lj,hsj.kept k4 gT zs,nLj,hvj⟩;refine Zd ?_;refine zM ?_;refine zI (v:=.agg #[.bool d,.slice e f g]) R5 (zB R2 p4 rfl zb rfl) ?_;refine zM ?_;refine zu _ R5 (ng (k+1) hG4 (n:=n2+1+1) zo a4.g (by rw [List.length_append,List.nil_append];simp;omega) j4 (by rw [vm hz,Int.natAbs_natCast];exact hq.2) hm) ?_;intro v h5 n5 w5 a6;obtain ⟨a7,rfl⟩:=a6.g.shape;have hw5:addW (ctx (k+9) n 0).n0 w5 []=[]:=(a4.trans a6).w_nil;refine rN R5 (uY (B:=[]++intN q.num++[47]++intN (denZ q)) R3 a6.g.text) ?_;refine Zd ?_;refine retF _ rfl (zi rfl) ⟨rfl,hw5⟩ ?_;show Value.string _=_;rw [List.nil_append,kU hz]
 have hz:denZ q=0:=hz.1 rfl;refine Zb ?_;refine zM ?_;refine zI (v:=.agg #[.bool b,.slice a l c]) R5 (zB R2 p1 rfl zb rfl) ?_;refine z8 _ R5 (zeq (k+8) i1) ?_;rintro _ ⟨y,ok,rfl,hy⟩;refine Zc ?_;refine Zc ?_;refine Zd ?_;refine Zd ?_;cases ok
 ·refine Za ?_;refine zM ?_;refine zI (v:=.agg #[.bool b,.slice a l c]) R5 (zB R2 p1 rfl zb rfl) ?_;refine z8 _ R5 (bV k hG1 (n:=n+1) zo i1 hq.1 hm) ?_;rintro _ rfl;refine Zd ?_;exact retF _ rfl (zi rfl) R2 (by rw [rZ hz];rfl)
 obtain ⟨rfl,hy1,hy2⟩:=hy rfl;refine Zb ?_;refine zM ?_;refine z8 _ R5 (gd (k+4) hG1 (n:=n+1) zo ⟨hy1,hy2⟩) ?_;rintro _ rfl;refine Zd ?_;exact retF _ rfl (zi rfl) R2 (by rw [rZ hz];rfl)
end
section
theorem ma {i j:Nat}(h:i≤j):10^i≤10^j:=Nat.pow_le_pow_right zd h
theorem jA (k:Nat)(h:HF)(n:Nat)(s:List UInt8)(hs:AllD s)(hl:s.length≤9):VF (cal (k+1)) 146 [.string ⟨⟨s⟩⟩] h n fun v=>v=.int .i64 ((dval s:Nat):Int):=by
 refine zw (fn:=Tryz.f146) R4 ?_;refine zN ?_;refine sh ?_;refine sh ?_;refine zM ?_;refine st_I (ik:=.i64) (a:=(s.length:Int)) R5 ?_;refine sh ?_;refine zQ (α:=Nat) (fun m=>[(0,.string ⟨⟨s⟩⟩),(3,.int .i64 ((dval (s.take m):Nat):Int)),(6,.int .i64 (s.length:Int)),(7,.int .i64 (m:Int))]) (fun m h' n' w=>h=h'∧n=n'∧w=[]∧m≤s.length) (fun m=>s.length-m) 0 ⟨rfl,rfl,rfl,rfl,trivial⟩ ⟨rfl,rfl,rfl,Nat.zero_le _⟩ (by show s.length-0<LL;unfold LL;omega) ?_;rintro m t _ _ _ ⟨rfl,rfl,rfl,hm⟩;refine zN ?_;by_cases hml:m=s.length
 ·refine sh ?_;refine Za ?_;refine sh ?_;exact retF _ rfl (zi rfl) R2 (by rw [hml,List.take_length];rfl)
 obtain ⟨b,hb⟩:∃b,s[m]?=some b:=⟨s[m]'zo,List.getElem?_eq_getElem zo⟩;have hbd:=hs b (List.mem_of_getElem? hb);have hlt:dval (s.take m)<10^m:=by
  have:=wK (s:=s.take m) fun b hb=>hs b (List.mem_of_mem_take hb);rw [List.length_take,Nat.min_eq_left zo] at this;exact this
 have hp:=ma (i:=m) (j:=8) zo;rw [show (10:Nat)^8=100000000 from rfl] at hp;have hnext:dval (s.take (m+1))=10*dval (s.take m)+(b.toNat-48):=by rw [rK hb,uN]
 generalize dval (s.take m)=V at hlt hnext;refine sh ?_;refine Zb ?_;refine sh ?_;refine zM ?_;refine st_mul (a:=10) (b:=(V:Int)) rfl rfl rfl rfl rfl rfl zo ?_;refine Zc ?_;refine yf (j:=m) R8 hb ?_;refine pG (a:=b.toNat) (b:=48) R6 zo ?_;refine wG (ik:=.i64) (a:=((b.toNat-48:Nat):Int)) R6 (by show some (Value.int .i64 (IntKind.wrap .i64 _))=_;rw [xo zo]) ?_;refine vv (a:=10*(V:Int)) (b:=((b.toNat-48:Nat):Int)) R6 zo ?_;refine sh ?_;refine sh ?_;exact goOn (m+1) (by show s.length-(m+1)<s.length-m;omega) ⟨rfl,by show Value.int .i64 _=Value.int .i64 _;rw [hnext];congr 1,rfl,rfl,trivial⟩ ⟨rfl,rfl,rfl,by show m+1≤_;omega⟩
theorem za9 (k:Nat)(h:HF)(n:Nat)(a b:Nat)(hb:b<9223372036854775808):VF (cal (k+1)) 122 [.int .i64 (a:Int),.int .i64 (b:Int)] h n fun v=>v=.int .i64 ((Nat.gcd a b:Nat):Int):=by
 refine zw (fn:=Tryz.f122) R4 ?_;refine zN ?_;refine sh ?_;refine zQ (α:=Nat×Nat) (fun z=>[(0,.int .i64 (z.1:Int)),(1,.int .i64 (z.2:Int))]) (fun z h' n' w=>h=h'∧n=n'∧w=[]∧z.2<9223372036854775808∧Nat.gcd z.1 z.2=Nat.gcd a b) (fun z=>z.2) (a,b) ⟨rfl,rfl,trivial⟩ ⟨rfl,rfl,rfl,hb,rfl⟩ (by show b<LL;unfold LL;omega) ?_;rintro ⟨x,y⟩ t _ _ _ ⟨rfl,rfl,rfl,hy,hg⟩;simp only at hy hg;refine zN ?_;by_cases hy0:y=0
 ·subst hy0;refine sh ?_;refine Za ?_;refine sh ?_;exact retF _ rfl (zi rfl) R2 (by rw [←hg,Nat.gcd_zero_right];rfl)
 refine sh ?_;refine Zb ?_;rw [xF rfl];refine Zc ?_;refine zM ?_;refine gZ (a:=(x:Int)) (b:=(y:Int)) R6 zo ?_;rw [show (x:Int).tmod (y:Int)=((x%y:Nat):Int) from rfl];refine sh ?_;exact goOn (y,x%y) (Nat.mod_lt _ zo) ⟨rfl,rfl,trivial⟩ ⟨rfl,rfl,rfl,Nat.lt_trans (Nat.mod_lt _ zo) hy,by show Nat.gcd y (x%y)=_;rw [←hg,Nat.gcd_comm x y,Nat.gcd_rec y x,Nat.gcd_comm]⟩
def ShT (s:List UInt8):Prop:=s.length≤20∧(spl s).1.length≤9∧(spl s).2.1.length≤9∧(spl s).2.2=true∧((spl s).2.1=[]∨Nat.gcd (dval (spl s).1) (dval (spl s).2.1)=1)
def ShR2 (s:List UInt8)(v:Value):Prop:=∃(x y:Int) (ok:Bool),v=.tuple #[.agg #[.int .i64 x,.int .i64 y],.bool ok]∧(ok=true→∃q:Rat,ratT q=s∧x=q.num∧y=(q.den:Int)∧q.num.natAbs<1000000000∧q.den<1000000000)∧(ShT s→ok=true)
theorem jt {s:List UInt8}(h:AllD s)(hl:s.length≤9):dval s<1000000000:=Nat.lt_of_lt_of_le (wK h) (Nat.le_trans (ma hl) zd)
theorem mX (k:Nat)(h:HF)(n:Nat)(s:List UInt8)(hs:s.length<1000000):VX (cal (k+5)) 114 [.string ⟨⟨s⟩⟩] h n (ShR2 s):=by
 refine zk (fn:=Tryz.f114) R4 ?_;refine zN ?_;refine zT R5 ?_;refine sh ?_;generalize hh:upd h (3*n+2) _=h1;have hr2:∃e,h1 (3*n+2)=some (.row [.int .i64 0,.int .i64 0] e):=⟨_,by rw [←hh,ze];rfl⟩;obtain ⟨e2,hr2⟩:=hr2;have hx:Ext n h h1:=fun b hb=>by rw [←hh,zj zo]
 clear hh;refine zM ?_;refine st_I (ik:=.i64) (a:=(s.length:Int)) R5 ?_;by_cases hl20:20<s.length
 ·refine sh ?_;refine Zb ?_;refine zA (v:=.agg #[.int .i64 0,.int .i64 0]) R5 ?_;refine zv [.int .i64 0,.int .i64 0] R7 rfl hr2 rfl (by show 3*n≤3*n+2;omega) ?_;refine sh ?_;exact yE (.bool false) R6 (ze _ _ _) rfl zo (fun b hb=>(zj zo).trans (hx b hb)) ⟨_,_,false,rfl,(fun h=>by cases h),fun h=>by have:=h.1;omega⟩
 refine sh ?_;refine Za ?_;refine zM ?_;refine zu _ R5 (fe k h1 (n+1) s hs) ?_;rintro _ h1s n2 _ ⟨rfl,hn2,hx1s,rfl⟩;replace hr2:=(hx1s (3*n+2) zo).trans hr2;replace hx:Ext n h h1s:=fun b hb=>(hx1s b zo).trans (hx b hb);have hfrm:(spl s).2.2=true→Frm s (spl s).1 (spl s).2.1:=fun e=>rR (by rw [←e]);have hsT:ShT s→(spl s).1.length≤9∧(spl s).2.1.length≤9∧(spl s).2.2=true∧((spl s).2.1=[]∨Nat.gcd (dval (spl s).1) (dval (spl s).2.1)=1):=fun h=>h.2;generalize (spl s).1=M at hfrm hsT ⊢;generalize (spl s).2.1=D at hfrm hsT ⊢;generalize (spl s).2.2=ok at hfrm hsT ⊢;generalize hmi:zC s=mi;repeat refine zR ?_
 refine zT R5 ?_;refine zv [.bool mi,.string ⟨⟨M⟩⟩,.string ⟨⟨D⟩⟩] R7 rfl (ze _ _ _) rfl (by show 3*n≤3*n2+2;omega) ?_;rw [yH];generalize hh:upd h1s (3*n2+2) _=h2;replace hr2:h2 (3*n+2)=some (.row [.int .i64 0,.int .i64 0] e2):=by rw [←hh,zj zo];exact hr2
 have hr4:∃e,h2 (3*n2+2)=some (.row [.bool mi,.string ⟨⟨M⟩⟩,.string ⟨⟨D⟩⟩] e):=⟨_,by rw [←hh,ze]⟩;obtain ⟨e4,hr4⟩:=hr4;replace hx:Ext n h h2:=fun b hb=>by rw [←hh,zj zo,hx b hb]
 clear hh;repeat refine zR ?_
 simp only [yL,xN,zO,xD];refine yo (α:=Bool) (fun z=>[(2,.pointer (some ⟨3*n+2,0,none⟩)),(4,.pointer (some ⟨3*n2+2,0,none⟩)),(29,.bool z)]) (fun z h' n' w=>h2=h'∧n'=n2+1∧w=[]∧(z=false→ok=true∧M.length≤9∧D.length≤9)∧(z=true→¬ShT s)) ?_ ?_
 ·refine zN ?_;cases ok with
  |false=>
   refine sh ?_;exact zK true ⟨rfl,rfl,rfl,trivial⟩ ⟨rfl,rfl,rfl,(fun h=>by cases h),(fun _ h=>by cases (hsT h).2.2.1)⟩
  |true=>
  repeat refine zR ?_
  refine zg R6 hr4 (v:=.string ⟨⟨M⟩⟩) R2 ?_;refine st_I (ik:=.i64) (a:=(M.length:Int)) R5 ?_;by_cases hM9:9<M.length
  ·refine sh ?_;exact zK true ⟨rfl,rfl,rfl,trivial⟩ ⟨rfl,rfl,rfl,(fun h=>by cases h),(fun _ h=>by have:=(hsT h).1;omega)⟩
  repeat refine zR ?_
  refine zg R6 hr4 (v:=.string ⟨⟨D⟩⟩) R2 ?_;refine st_I (ik:=.i64) (a:=(D.length:Int)) R5 ?_;by_cases hD9:9<D.length
  ·refine sh ?_;exact zK true ⟨rfl,rfl,rfl,trivial⟩ ⟨rfl,rfl,rfl,(fun h=>by cases h),(fun _ h=>by have:=(hsT h).2.1;omega)⟩
  refine sh ?_;exact zK false ⟨rfl,rfl,rfl,trivial⟩ ⟨rfl,rfl,rfl,(fun _=>⟨by first|rfl|trivial,zo,zo⟩),fun h=>by cases h⟩
 rintro z t _ _ _ ⟨rfl,rfl,rfl,hz,hzT⟩;cases z with
 |true=>
  refine Zb ?_;refine zA (v:=.agg #[.int .i64 0,.int .i64 0]) R5 ?_;refine zv [.int .i64 0,.int .i64 0] R7 rfl hr2 rfl (by show 3*n≤3*n+2;omega) ?_;refine sh ?_;exact yE (.bool false) R6 (ze _ _ _) rfl zo (fun b hb=>(zj zo).trans (hx b hb)) ⟨_,_,false,rfl,(fun h=>by cases h),fun h=>absurd h (hzT rfl)⟩
 |false=>
 refine Za ?_;obtain ⟨rfl,hM9,hD9⟩:=hz rfl;have hf:=hfrm rfl;have hMv:=jt hf.dm hM9;have hDv:=jt hf.dd hD9;clear hz hfrm;repeat refine zR ?_
 refine zg R6 hr4 (v:=.string ⟨⟨M⟩⟩) R2 ?_;refine z8 _ R5 (jA (k+3) h2 (n2+1) M hf.dm hM9) ?_;rintro _ rfl;refine zA (v:=.agg #[.int .i64 ((dval M:Nat):Int),.int .i64 1]) R5 ?_;refine zT R5 ?_;refine zv [.int .i64 ((dval M:Nat):Int),.int .i64 1] R7 rfl (ze _ _ _) rfl (by show 3*n≤3*(n2+1)+2;omega) ?_;rw [yH];generalize hh:upd h2 (3*(n2+1)+2) _=h3;replace hr2:h3 (3*n+2)=some (.row [.int .i64 0,.int .i64 0] e2):=by rw [←hh,zj zo];exact hr2
 replace hr4:h3 (3*n2+2)=some (.row [.bool mi,.string ⟨⟨M⟩⟩,.string ⟨⟨D⟩⟩] e4):=by rw [←hh,zj zo];exact hr4
 have hr6:∃e,h3 (3*(n2+1)+2)=some (.row [.int .i64 ((dval M:Nat):Int),.int .i64 1] e):=⟨_,by rw [←hh,ze]⟩;obtain ⟨e6,hr6⟩:=hr6;replace hx:Ext n h h3:=fun b hb=>by rw [←hh,zj zo,hx b hb]
 clear hh;refine Ze ?_;refine zg R6 hr4 (v:=.string ⟨⟨D⟩⟩) R2 ?_;refine zhl (!(D==[])) rfl rfl rfl rfl rfl rfl rfl ?_;simp only [yL,xN,zO,xD];refine yo (α:=Nat) (fun _=>[(2,.pointer (some ⟨3*n+2,0,none⟩)),(4,.pointer (some ⟨3*n2+2,0,none⟩)),(6,.pointer (some ⟨3*(n2+1)+2,0,none⟩))]) (fun z h' n' w=>w=[]∧n'=n2+1+1∧Ext n h h'∧h' (3*n+2)=some (.row [.int .i64 0,.int .i64 0] e2)∧h' (3*n2+2)=some (.row [.bool mi,.string ⟨⟨M⟩⟩,.string ⟨⟨D⟩⟩] e4)∧(∃e,h' (3*(n2+1)+2)=some (.row [.int .i64 ((dval M:Nat):Int),.int .i64 (z:Int)] e))∧z=(if D=[] then 1 else dval D)∧(D=[]∨Nat.gcd (dval M) (dval D)=1)) ?_ ?_
 ·by_cases hD:D=[]
  ·rw [za (by show Value.bool _=_;rw [hD];rfl)];refine zN ?_;exact zK 1 ⟨rfl,rfl,rfl,trivial⟩ ⟨rfl,rfl,hx,hr2,hr4,⟨e6,hr6⟩,by rw [if_pos hD],.inl hD⟩
  rw [zc (by show Value.bool _=_;rw [show (D==[])=false from by simpa using hD];rfl)];refine Ze ?_;refine zg R6 hr4 (v:=.string ⟨⟨D⟩⟩) R2 ?_;refine z8 _ R5 (jA (k+3) h3 (n2+1+1) D hf.dd hD9) ?_;rintro _ rfl;repeat refine zR ?_
  refine yB (cs:=[.int .i64 ((dval D:Nat):Int)]) R8 hr6 zb (by show 3*n≤3*(n2+1)+2;omega) ?_;generalize hh:upd h3 (3*(n2+1)+2) _=h4;replace hr2:h4 (3*n+2)=some (.row [.int .i64 0,.int .i64 0] e2):=by rw [←hh,zj zo];exact hr2
  replace hr4:h4 (3*n2+2)=some (.row [.bool mi,.string ⟨⟨M⟩⟩,.string ⟨⟨D⟩⟩] e4):=by rw [←hh,zj zo];exact hr4
  replace hr6:h4 (3*(n2+1)+2)=some (.row [.int .i64 ((dval M:Nat):Int),.int .i64 ((dval D:Nat):Int)] e6):=by rw [←hh,ze];rfl
  replace hx:Ext n h h4:=fun b hb=>by rw [←hh,zj zo,hx b hb]
  clear hh;refine Ze ?_;refine zg R6 hr6 (v:=.int .i64 ((dval M:Nat):Int)) R2 ?_;repeat refine zR ?_
  refine zg R6 hr6 (v:=.int .i64 ((dval D:Nat):Int)) R2 ?_;refine z8 _ R5 (za9 (k+3) h4 (n2+1+1) (dval M) (dval D) zo) ?_;rintro _ rfl;by_cases hg:Nat.gcd (dval M) (dval D)=1
  ·refine sh ?_;refine Za ?_;exact zK (dval D) ⟨rfl,rfl,rfl,trivial⟩ ⟨rfl,rfl,hx,hr2,hr4,⟨e6,hr6⟩,by rw [if_neg hD],.inr hg⟩
  refine sh ?_;refine Zb ?_;refine zA (v:=.agg #[.int .i64 0,.int .i64 0]) R5 ?_;refine zv [.int .i64 0,.int .i64 0] R7 rfl hr2 rfl (by show 3*n≤3*n+2;omega) ?_;refine sh ?_;exact yE (.bool false) R6 (ze _ _ _) rfl zo (fun b hb=>(zj zo).trans (hx b hb)) ⟨_,_,false,rfl,(fun h=>by cases h),fun h=>by
   rcases (hsT h).2.2.2 with h|h
   ·exact (hD h).elim
   ·exact (hg h).elim⟩
 rintro z t h5 n5 _ ⟨rfl,rfl,hx,hr2,hr4,⟨e6,hr6⟩,hz,hg⟩;obtain ⟨q,hq,hq1,hq2⟩:=hf.rat hg;rw [←hz] at hq2;rw [hmi] at hq1;have hz9:z<1000000000:=by
  rw [hz];split
  ·decide
  exact hDv
 refine Ze ?_;refine zg R6 hr4 (v:=.bool mi) R2 ?_;refine zN ?_;cases mi with
 |true=>
  refine Zb ?_;repeat refine zR ?_
  refine zg R6 hr6 (v:=.int .i64 ((dval M:Nat):Int)) R2 ?_;refine st_I (ik:=.i64) (a:= -((dval M:Nat):Int)) ⟨rfl,rfl,rfl,rfl,(by show some (Value.int .i64 (IntKind.wrap .i64 _))=_;rw [xo zo,Int.zero_sub])⟩ ?_;repeat refine zR ?_
  refine yB (cs:=[.int .i64 (-((dval M:Nat):Int))]) R8 hr6 zb (by show 3*n≤3*(n2+1)+2;omega) ?_;generalize hh:upd h5 (3*(n2+1)+2) _=h6;replace hr2:h6 (3*n+2)=some (.row [.int .i64 0,.int .i64 0] e2):=by rw [←hh,zj zo];exact hr2
  replace hr6:h6 (3*(n2+1)+2)=some (.row [.int .i64 (-((dval M:Nat):Int)),.int .i64 (z:Int)] e6):=by rw [←hh,ze];rfl
  replace hx:Ext n h h6:=fun b hb=>by rw [←hh,zj zo,hx b hb]
  clear hh;refine zN ?_;refine zI (v:=.agg #[.int .i64 (-((dval M:Nat):Int)),.int .i64 (z:Int)]) R5 (zB R2 hr6 rfl zb rfl) ?_;refine zv [.int .i64 (-((dval M:Nat):Int)),.int .i64 (z:Int)] R7 rfl hr2 rfl (by show 3*n≤3*n+2;omega) ?_;refine sh ?_;refine yE (.bool true) R6 (ze _ _ _) rfl zo (fun b hb=>(zj zo).trans (hx b hb)) ⟨_,_,true,rfl,(fun _=>⟨q,hq,?_,by rw [hq2],?_,by rw [hq2];exact hz9⟩),fun _=>rfl⟩
  ·rw [hq1];rfl
  rw [hq1];simp only [if_true];omega
 |false=>
  refine Za ?_;refine zI (v:=.agg #[.int .i64 ((dval M:Nat):Int),.int .i64 (z:Int)]) R5 (zB R2 hr6 rfl zb rfl) ?_;refine zv [.int .i64 ((dval M:Nat):Int),.int .i64 (z:Int)] R7 rfl hr2 rfl (by show 3*n≤3*n+2;omega) ?_;refine sh ?_;refine yE (.bool true) R6 (ze _ _ _) rfl zo (fun b hb=>(zj zo).trans (hx b hb)) ⟨_,_,true,rfl,(fun _=>⟨q,hq,?_,by rw [hq2],?_,by rw [hq2];exact hz9⟩),fun _=>rfl⟩
  ·rw [hq1];rfl
  rw [hq1];simp only [Bool.false_eq_true,if_false];omega
end
section
variable {e ty ty':TypeId}{x y:Operand}{B D cap:Nat}{c0:List Value}{T:List Nat}
section
variable {X:CtxF}{ops r:List Oper}{t:TF}{h:HF}{n:Nat}{w:List Nat}{Q:SV→Prop}{o:Oper}{d:Tmp}
theorem zf3 {a b c:Int}(hw:zh ops t o=true∧o.dst=some d∧zm X.nt (some d)=true∧o.op=.binOp .quo ty x y ty'∧evF t x=.int .i64 a∧evF t y=.int .i64 b)(hr:b≠0)(hc:a.tdiv b=c)(hr2: -9223372036854775808≤c∧c<9223372036854775808)
  (k:EO X ops r ⟨upd t d (.int .i64 c),h,n,w⟩ Q):EO X ops (o::r) ⟨t,h,n,w⟩ Q:=by
 obtain ⟨hw,hd,hn,ho,hx,hy⟩:=hw;refine zA ⟨hw,hd,hn,(by rw [ho];rfl),?_⟩ k;rw [ho];show binE X.E .quo ty (evF t x) (evF t y)=_;rw [hx,hy];have:ikEq .i64 .i64=true:=rfl;simp only [binE,isSh,this,intE,if_neg hr,hc,xo hr2]
theorem zkc {a:Int}(hw:zh ops t o=true)(hd:o.dst=some d)(hn:zm X.nt (some d)=true)(ho:o.op=.unOp .neg ty x)(hx:evF t x=.int .i64 a)(hr: -9223372036854775808≤ -a∧ -a<9223372036854775808)
  (k:EO X ops r ⟨upd t d (.int .i64 (-a)),h,n,w⟩ Q):EO X ops (o::r) ⟨t,h,n,w⟩ Q:=by
 refine zA ⟨hw,hd,hn,(by rw [ho];rfl),?_⟩ k;rw [ho];show unE .neg (evF t x)=_;rw [hx];show some (Value.int .i64 (IntKind.wrap .i64 (0-a)))=_;rw [show 0-a= -a by omega,xo hr]
end
theorem cV (k:Nat){h:HF}(hG:GK.G h){n:Nat}(hn:20≤n)(hT:c0.take T.length=u8s T)(hB:60≤B∧B<3*n)(hrow:h B=some (.row c0 e))(hc0:cap=c0.length∧T.length+21≤cap∧cap<1000000){x:Int}(hx: -9223372036854775808≤x∧x<9223372036854775808):
  CF (cal (k+4)) 152 [.slice (some ⟨B,0,none⟩) T.length cap,.int .i64 x,.int .i64 10] h n fun v h' n' w=>BufT T h n B cap e c0 (intN x) v h' n' w:=by
 refine zk (fn:=Tryz.f152) R4 ?_;obtain ⟨m,hm⟩:∃m,m=x.natAbs:=⟨_,rfl⟩;refine zN ?_;refine Zd ?_;by_cases hneg:x<0
 ·have hi:intN x=[45]++decN m:=by unfold intN;rw [if_pos hneg,hm]
  refine zM ?_;refine wG (ik:=.u64) (a:=((18446744073709551616-m:Nat):Int)) R6 ?_ ?_
  ·show some (Value.int .u64 (IntKind.wrap .u64 x))=_;rw [show x= -(m:Int) from zo,uE m zo]
  refine Zd ?_;refine sh ?_;refine Zb ?_;refine zM ?_;refine kw [.int .u8 45] (l:=1) (c:=1) R5 ?_;intro h1 p1 x1;have hrow1:=(x1 B hB.2).trans hrow;refine yJ R5 (tC (m:=1) R3 zb (yy p1 R2) zo ⟨rfl,Nat.le_refl _⟩ zo hrow1 zo rfl) ?_;rw [tD (by show B<3*n;exact hB.2)];rw [show T.length+1=(T++[45]).length from by rw [List.length_append];rfl];obtain ⟨t1,t2⟩:=wQ (N:=[45]) hT (by show T.length+1≤_;omega);have hG2:GK.G (upd h1 B (some (.row (zn c0 T.length [.int .u8 45]) e))):=G_fr hG fun b hb _=>(zj zo).trans (x1 b zo);refine Zd ?_;refine zM ?_;refine zA (v:=.int .u64 (m:Int)) ⟨rfl,rfl,rfl,rfl,?_⟩ ?_
  ·show some (Value.int .u64 (IntKind.wrap .u64 (0-((18446744073709551616-m:Nat):Int))))=_;rw [vR _ zo];congr 3;omega
  refine Zd ?_;refine Zc ?_;refine zM ?_;refine zu _ R5 (ni k hG2 (n:=n+1) zo (T:=T++[45]) (B:=B) (cap:=cap) (u:=m) t1 zo (ze _ _ _) ⟨by rw [t2];exact hc0.1,by rw [List.length_append];simp;omega,hc0.2.2⟩ zo) ?_;rintro v h3 n3 w3 ⟨rfl,hn3,hw3,ho3,c3,hr3,hl3,ht3⟩;refine Zd ?_;refine retH [.slice (some ⟨B,0,none⟩) (T++[45]++decN m).length cap] R3 ⟨by rw [hi,←List.append_assoc];rfl,by show n≤n3;omega,fun b hb=>?_,fun b hb hne=>(ho3 b zo hne).trans ((zj hne).trans (x1 b hb)),c3,hr3,hl3.trans t2,by rw [hi,←List.append_assoc];exact ht3⟩;rcases yF.1 hb with h|⟨h,_⟩
  ·exact List.mem_singleton.1 h
  exact hw3 b h
 have hi:intN x=decN m:=by unfold intN;rw [if_neg hneg,hm];rfl
 obtain rfl:x=(m:Int):=zo;refine zM ?_;refine tR (c:=m) R7 zo ?_;refine Zd ?_;refine sh ?_;refine Za ?_;refine Zc ?_;refine zM ?_;refine zu _ R5 (ni k hG hn (T:=T) (B:=B) (cap:=cap) (u:=m) hT zo hrow ⟨hc0.1,zo,hc0.2.2⟩ zo) ?_;rintro v h3 n3 w3 ⟨rfl,hn3,hw3,ho3,c3,hr3,hl3,ht3⟩;refine Zd ?_;refine retH [.slice (some ⟨B,0,none⟩) (T++decN m).length cap] R3 ⟨by rw [hi];rfl,hn3,fun b hb=>?_,ho3,c3,hr3,hl3,by rw [hi];exact ht3⟩;rcases yF.1 hb with h|⟨h,_⟩
 ·exact absurd h List.not_mem_nil
 exact hw3 b h
theorem nj (k:Nat){h:HF}(hG:GK.G h){n:Nat}(hn:20≤n)(hT:c0.take T.length=u8s T)(hB:60≤B∧B<3*n)(hrow:h B=some (.row c0 e))(hc0:cap=c0.length∧T.length+21≤cap∧cap<1000000){x:Int}(hx: -9223372036854775808≤x∧x<9223372036854775808):
  CF (cal (k+5)) 124 [.slice (some ⟨B,0,none⟩) T.length cap,.int .i64 x,.int .i64 10] h n fun v h' n' w=>BufT T h n B cap e c0 (intN x) v h' n' w:=by
 refine zk (fn:=Tryz.f124) R4 ?_;refine zN ?_;refine Zd ?_;refine Zc ?_;refine zM ?_;refine zu _ R5 (cV k hG hn hT hB hrow hc0 hx) ?_;rintro v h3 n3 w3 ⟨rfl,hn3,hw3,ho3,c3,hr3,hl3,ht3⟩;refine Zd ?_;refine retH [.slice (some ⟨B,0,none⟩) (T++intN x).length cap] R3 ⟨rfl,hn3,fun b hb=>?_,ho3,c3,hr3,hl3,ht3⟩;rcases yF.1 hb with h|⟨h,_⟩
 ·exact absurd h List.not_mem_nil
 exact hw3 b h
theorem qU (N:Int)(hD:0<D):(Rat.divInt N D).num=N.tdiv ((Nat.gcd N.natAbs D:Nat):Int)∧((Rat.divInt N D).den:Int)=(D:Int).tdiv ((Nat.gcd N.natAbs D:Nat):Int):=by
 have hg:0<Nat.gcd N.natAbs D:=Nat.gcd_pos_of_pos_right _ hD;rw [Rat.divInt_ofNat,←Rat.normalize_eq_mkRat zo,Rat.normalize_eq];simp only;refine ⟨?_,?_⟩
 ·rw [Int.tdiv_eq_ediv_of_dvd];exact Int.ofNat_dvd_left.2 (Nat.gcd_dvd_left _ _)
 rfl
theorem mf {x:Int}(hx: -9223372036854775808≤x∧x<9223372036854775808):(intN x).length≤21:=by
 have h1:(decN x.natAbs).length≤20:=by
  unfold decN;split
  ·decide
  unfold decB;rw [List.length_map];exact wc 20 _ zo
 unfold intN;rw [List.length_append];split<;>simp<;>omega
theorem gh (k:Nat){h:HF}(hG:GK.G h){n:Nat}(hn:20≤n){N:Int}(hN: -9000000000000000000≤N∧N≤9000000000000000000)(hD:0<D∧D≤9000000000000000000):VF (cal (k+6)) 86 [.int .i64 N,.int .i64 (D:Int)] h n fun v=>v=.string ⟨⟨ratT (Rat.divInt N D)⟩⟩:=by
 refine zw (fn:=Tryz.f86) R4 ?_;obtain ⟨e1,e2⟩:=qU N hD.1;have hg:0<Nat.gcd N.natAbs D:=Nat.gcd_pos_of_pos_right _ hD.1;have hgD:Nat.gcd N.natAbs D≤D:=Nat.le_of_dvd hD.1 (Nat.gcd_dvd_right _ _);generalize Rat.divInt N D=q at e1 e2 ⊢;have hqD:(q.den:Int)≤D∧(0:Int)<q.den:=by
  refine ⟨?_,by have:=q.den_pos;omega⟩;rw [e2];exact Int.ofNat_le.2 (Nat.div_le_self _ _)
 have hqN: -9000000000000000000≤q.num∧q.num≤9000000000000000000:=by
  have h1:q.num.natAbs≤N.natAbs:=by rw [e1,Int.natAbs_tdiv];exact Nat.div_le_self _ _
  omega
 refine zN ?_;refine Zd ?_;refine sh ?_;rw [za rfl,yL,zO,xD];refine yo (α:=Unit) (fun _=>[(0,.int .i64 q.num),(1,.int .i64 (q.den:Int))]) (fun _ h' n' w=>h=h'∧n'=n∧w=[]) ?_ ?_
 ·refine zN ?_;by_cases hD1:D=1
  ·subst hD1;rw [Nat.gcd_one_right] at e1 e2;refine sh ?_;refine Za ?_;exact zK () ⟨by rw [e1];simp;rfl,by rw [e2];rfl,trivial⟩ ⟨rfl,rfl,rfl⟩
  refine sh ?_;refine Zb ?_;refine Zc ?_;refine zkc rfl rfl rfl rfl rfl zo ?_;refine st_I (ik:=.i64) (a:=(N.natAbs:Int)) ⟨rfl,rfl,rfl,rfl,?_⟩ ?_
  ·show some (Value.int .i64 (if N< -N then -N else N))=_;congr 2;split<;>omega
  refine zM ?_;refine z8 _ R5 (za9 (k+4) _ _ N.natAbs D zo) ?_;rintro _ rfl;refine Zd ?_;rw [xF rfl];refine Zc ?_;refine zf3 (c:=q.num) R6 zo e1.symm zo ?_;refine Zc ?_;refine zf3 (c:=(q.den:Int)) R6 zo e2.symm zo ?_;refine Zc ?_;refine zN ?_;exact zK () ⟨rfl,rfl,trivial⟩ ⟨rfl,rfl,rfl⟩
 rintro _ t _ n _ ⟨rfl,rfl,rfl⟩;refine zN ?_;by_cases hq1:q.den=1
 ·refine sh ?_;refine Zb ?_;refine zM ?_;refine z8 _ R5 (ml (k+1) hG hn (x:=q.num) zo) ?_;rintro _ rfl;refine Zd ?_;exact retF _ rfl (zi rfl) R2 (by rw [rZ (yw.2 hq1)];rfl)
 have hz:¬denZ q=0:=mt yw.1 hq1;refine sh ?_;refine Za ?_;refine we (List.replicate 48 (.int .u8 0)) R6 ?_;intro h1 p1 x1;have hG1:=sw hG x1 hn;have hl1:(intN q.num).length≤21:=mf zo;refine zN ?_;refine u9 (j:=0) R8 rfl (yz n) zo ?_;refine zM ?_;refine zu _ R5 (nj k hG1 (n:=n+1) zo (T:=[]) (B:=3*n+2) (cap:=48) rfl zo p1 ⟨by rw [List.length_replicate],by show 0+21≤48;omega,zo⟩ (x:=q.num) zo) ?_;rintro v h2 n2 w2 ⟨rfl,hn2,hw2,ho2,c2,hr2,hl2,ht2⟩;rw [yc fun b hb=>by rw [hw2 b hb];show 3*n≤_;omega];rw [List.length_replicate] at hl2;refine Zd ?_;refine zM ?_;refine kw [.int .u8 47] (l:=1) (c:=1) R5 ?_;intro h3 p3 x3;have hr3:=(x3 (3*n+2) zo).trans hr2;refine yJ R5 (tC (m:=1) R3 zb (yy p3 R2) (by show (([]++intN q.num).length+1)*1≤_;rw [List.nil_append];omega) ⟨rfl,Nat.le_refl _⟩ (by rw [List.nil_append];omega) hr3 (by rw [List.nil_append];omega) rfl) ?_;rw [yc fun b hb=>by rw [List.mem_singleton.1 hb];show 3*n≤_;omega];rw [show (([]:List Nat)++intN q.num).length+1=(([]:List Nat)++intN q.num++[47]).length from by simp];obtain ⟨t1,t2⟩:=wQ (N:=[47]) ht2 (by show ([]++intN q.num).length+1≤_;rw [List.nil_append];omega);generalize hh4:upd h3 (3*n+2) _=h4;have hG4:GK.G h4:=by
  rw [←hh4];exact G_fr hG fun b hb _=>(zj zo).trans ((x3 b zo).trans ((ho2 b zo zo).trans (x1 b zo)))
 have hr4:∃e,h4 (3*n+2)=some (.row (zn c2 ([]++intN q.num).length [.int .u8 47]) e):=⟨_,by rw [←hh4];exact ze _ _ _⟩;obtain ⟨e4,hr4⟩:=hr4;have hl4:(intN (q.den:Int)).length≤21:=mf zo;refine Zd ?_;refine Zc ?_;refine zu _ R5 (nj k hG4 (n:=n2+1) zo (T:=[]++intN q.num++[47]) (B:=3*n+2) (cap:=48) t1 zo hr4 ⟨by rw [t2,hl2],by rw [List.length_append,List.nil_append];simp;omega,zo⟩ (x:=(q.den:Int)) zo) ?_;rintro v h5 n5 w5 ⟨rfl,hn5,hw5,ho5,c5,hr5,hl5,ht5⟩;rw [yc fun b hb=>by rw [hw5 b hb];show 3*n≤_;omega];refine rN R5 (uY (B:=[]++intN q.num++[47]++intN (q.den:Int)) R3 (vJ hr5 (by rw [List.drop_zero];exact ht5) (by rw [hl5,t2,hl2];simp only [List.length_append,List.nil_append,List.length_singleton];omega) (by simp only [List.length_append,List.nil_append,List.length_singleton];omega))) ?_;refine Zd ?_;refine retF _ rfl (zi rfl) R2 ?_;show Value.string _=_;rw [List.nil_append,kU hz,vm hz]
end
section
variable {h:HF}{cx cy fx gx lx ly n:Nat}{dx sx sy:Bool}{ax ay ex:Option Addr}
theorem oz {x y:Int}(hy:0<y):(Rat.divInt x y).num=x.tdiv ((Nat.gcd x.natAbs y.natAbs:Nat):Int)∧((Rat.divInt x y).den:Int)=y.tdiv ((Nat.gcd x.natAbs y.natAbs:Nat):Int):=by
 obtain ⟨d,rfl⟩:∃d:Nat,y=(d:Int):=⟨y.toNat,zo⟩;exact qU x zo
theorem zi0 {x y:Int}:Rat.divInt x y=Rat.divInt (-x) (-y):=by rw [Rat.neg_divInt_neg]
theorem jo {x y:Int}(hy:y<0):(Rat.divInt x y).num=(-x).tdiv ((Nat.gcd (-x).natAbs (-y).natAbs:Nat):Int)∧((Rat.divInt x y).den:Int)=(-y).tdiv ((Nat.gcd (-x).natAbs (-y).natAbs:Nat):Int):=by
 rw [zi0];exact oz zo
theorem tL {x y:Int}(hy:0<y)(hg:((Nat.gcd x.natAbs y.natAbs:Nat):Int)=1):(Rat.divInt x y).num=x∧((Rat.divInt x y).den:Int)=y:=by
 have h:=oz (x:=x) hy;rw [hg,Int.tdiv_one,Int.tdiv_one] at h;exact h
theorem qQ {x y:Int}(hy:y<0)(hg:((Nat.gcd (-x).natAbs (-y).natAbs:Nat):Int)=1):(Rat.divInt x y).num= -x∧((Rat.divInt x y).den:Int)= -y:=by
 rw [zi0];exact tL zo hg
theorem zbd {x y:Int}(hy:y=1):(Rat.divInt x y).num=x∧denZ (Rat.divInt x y)=0:=by
 have h:=tL (x:=x) (y:=y) zo (by rw [hy];simp);exact ⟨h.1,yw.2 (by have:=h.2;omega)⟩
theorem zeu {x y:Int}(hy: -y=1):(Rat.divInt x y).num= -x∧denZ (Rat.divInt x y)=0:=by
 rw [zi0];exact zbd hy
theorem jn (k:Nat){x:Int}{y:Int}(g:GG h n)(ix:IW h n sx ax lx cx x)(iy:IW h n sy ay ly cy y)(hx:x.natAbs<BW)(hy:y.natAbs<BW)(hy0:y≠0):CX (cal (k+10)) 203 [.agg #[.bool sx,.slice ax lx cx],.agg #[.bool sy,.slice ay ly cy]] h n (QV (Rat.divInt x y)):=by
 have hxn:(-x).natAbs<BW:=by rw [Int.natAbs_neg];exact hx
 have hyn:(-y).natAbs<BW:=by rw [Int.natAbs_neg];exact hy
 have hgn:((Nat.gcd (-x).natAbs (-y).natAbs:Nat):Int).natAbs<BW:=gc hyn zo;have hgp:((Nat.gcd x.natAbs y.natAbs:Nat):Int).natAbs<BW:=gc hy hy0;have hgn0:((Nat.gcd (-x).natAbs (-y).natAbs:Nat):Int)≠0:=ga zo;have hgp0:((Nat.gcd x.natAbs y.natAbs:Nat):Int)≠0:=ga hy0;refine zk (fn:=Tryz.f203) R4 ?_;refine zG ?_;refine sB [.bool sx,.slice ax lx cx] ?_;intro h11 p11 x11;refine sB [.bool sy,.slice ay ly cy] ?_;intro h12 p12 x12;refine sA ?_;intro h13 p13 x13;refine zG ?_;refine sC (xH _ (iy.t zt)) ?_;rintro _ h14 n14 ⟨b14,rfl,bq14⟩ y14 x14;rcases bvs bq14 with ⟨rfl,q14⟩|⟨rfl,q14⟩
 ·refine zG ?_;refine sC (xH _ (ix.t zt)) ?_;rintro _ h15 n15 ⟨b15,rfl,bq15⟩ y15 x15;rcases bvs bq15 with ⟨rfl,q15⟩|⟨rfl,q15⟩
  ·refine zG ?_;refine sC (zhs _ (iy.t zt)) ?_;rintro _ h16 n16 ⟨s16,rfl,q16⟩ y16 x16;rcases q16 with ⟨rfl,q16⟩|⟨rfl,q16⟩|⟨rfl,q16⟩
   ·refine zG ?_;refine zl [0,1,0,7,15,31] rfl ?_;refine zH ?_;refine dC (negX _ (ix.t zt)) ?_;rintro _ h17 n17 ⟨b17,a17,l17,c17,rfl,i17⟩ y17 x17;refine zH ?_;refine dC (negX _ (iy.t zt)) ?_;rintro _ h18 n18 ⟨b18,a18,l18,c18,rfl,i18⟩ y18 x18;refine dS [.bool b17,.slice a17 l17 c17] ?_;intro h19 p19 o19;refine dS [.bool b18,.slice a18 l18 c18] ?_;intro h20 p20 o20;refine zG ?_;refine sC (rx _ (i18.t zt)) ?_;rintro _ h21 n21 ⟨b21,rfl,bq21⟩ y21 x21;rcases bvs bq21 with ⟨rfl,q21⟩|⟨rfl,q21⟩
    ·refine zG ?_;refine sC (gcdX _ (g.t zt) (i17.t zt) (i18.t zt) szB szB) ?_;rintro _ h22 n22 ⟨b22,a22,l22,c22,rfl,i22⟩ y22 x22;refine sA ?_;intro h23 p23 x23;refine sS [.bool b22,.slice a22 l22 c22] ?_;intro h24 p24 o24;refine zG ?_;refine sC (rx _ (i22.t zt)) ?_;rintro _ h25 n25 ⟨b25,rfl,bq25⟩ y25 x25;rcases bvs bq25 with ⟨rfl,q25⟩|⟨rfl,q25⟩
     ·refine zG ?_;refine zl [0,0,3,0,0,31,63,127] rfl ?_;refine zH ?_;refine dC (quoX _ (i17.t zt) (i22.t zt) szB szB szN) ?_;rintro _ h26 n26 ⟨b26,a26,l26,c26,rfl,i26⟩ y26 x26;refine zH ?_;refine dC (quoX _ (i18.t zt) (i22.t zt) szB szB szN) ?_;rintro _ h27 n27 ⟨b27,a27,l27,c27,rfl,i27⟩ y27 x27;refine dS [.bool b26,.slice a26 l26 c26] ?_;intro h28 p28 o28;refine dS [.bool b27,.slice a27 l27 c27] ?_;intro h29 p29 o29;refine zG ?_;refine sC (uL _ (i26.t zt) (i27.t zt) (q:=Rat.divInt x y) (by first|exact (oz zo).1|exact (jo zo).1|exact (tL zo ‹_›).1|exact (qQ zo ‹_›).1) (by first|exact (oz zo).2|exact (jo zo).2|exact (tL zo ‹_›).2|exact (qQ zo ‹_›).2)) ?_;rintro _ h30 n30 ⟨b30,a30,l30,c30,d30,e30,f30,g30,rfl,i30,j30⟩ y30 x30;refine sS [.bool b30,.slice a30 l30 c30,.bool d30,.slice e30 f30 g30] ?_;intro h31 p31 o31;refine zq ?_;exact ⟨_,_,_,_,_,_,_,_,rfl,(i30.t zt),(j30.t zt)⟩
     refine zG ?_;refine sC (uL _ (i17.t zt) (i18.t zt) (q:=Rat.divInt x y) (by first|exact (oz zo).1|exact (jo zo).1|exact (tL zo ‹_›).1|exact (qQ zo ‹_›).1) (by first|exact (oz zo).2|exact (jo zo).2|exact (tL zo ‹_›).2|exact (qQ zo ‹_›).2)) ?_;rintro _ h32 n32 ⟨b32,a32,l32,c32,d32,e32,f32,g32,rfl,i32,j32⟩ y32 x32;refine sS [.bool b32,.slice a32 l32 c32,.bool d32,.slice e32 f32 g32] ?_;intro h33 p33 o33;refine zq ?_;exact ⟨_,_,_,_,_,_,_,_,rfl,(i32.t zt),(j32.t zt)⟩
    refine zG ?_;refine sT #[.bool b17,.slice a17 l17 c17,.bool false,.slice none 0 0] ?_;refine sS [.bool b17,.slice a17 l17 c17,.bool false,.slice none 0 0] ?_;intro h34 p34 o34;refine zq ?_;exact ⟨_,_,_,_,_,_,_,_,rfl,(i17.t zt).as ((by first|exact (zbd ‹_›).1.symm|exact (zeu ‹_›).1.symm)),(IW.zero _ _).as ((by first|exact (zbd ‹_›).2.symm|exact (zeu ‹_›).2.symm))⟩
   ·exact absurd q16 hy0
   refine zG ?_;refine sC (rx _ (iy.t zt)) ?_;rintro _ h35 n35 ⟨b35,rfl,bq35⟩ y35 x35;rcases bvs bq35 with ⟨rfl,q35⟩|⟨rfl,q35⟩
   ·refine zG ?_;refine sC (gcdX _ (g.t zt) (ix.t zt) (iy.t zt) szB szB) ?_;rintro _ h36 n36 ⟨b36,a36,l36,c36,rfl,i36⟩ y36 x36;refine sA ?_;intro h37 p37 x37;refine sS [.bool b36,.slice a36 l36 c36] ?_;intro h38 p38 o38;refine zG ?_;refine sC (rx _ (i36.t zt)) ?_;rintro _ h39 n39 ⟨b39,rfl,bq39⟩ y39 x39;rcases bvs bq39 with ⟨rfl,q39⟩|⟨rfl,q39⟩
    ·refine zG ?_;refine zl [0,0,3,0,0,31,63,127] rfl ?_;refine zH ?_;refine dC (quoX _ (ix.t zt) (i36.t zt) szB szB szN) ?_;rintro _ h40 n40 ⟨b40,a40,l40,c40,rfl,i40⟩ y40 x40;refine zH ?_;refine dC (quoX _ (iy.t zt) (i36.t zt) szB szB szN) ?_;rintro _ h41 n41 ⟨b41,a41,l41,c41,rfl,i41⟩ y41 x41;refine dS [.bool b40,.slice a40 l40 c40] ?_;intro h42 p42 o42;refine dS [.bool b41,.slice a41 l41 c41] ?_;intro h43 p43 o43;refine zG ?_;refine sC (uL _ (i40.t zt) (i41.t zt) (q:=Rat.divInt x y) (by first|exact (oz zo).1|exact (jo zo).1|exact (tL zo ‹_›).1|exact (qQ zo ‹_›).1) (by first|exact (oz zo).2|exact (jo zo).2|exact (tL zo ‹_›).2|exact (qQ zo ‹_›).2)) ?_;rintro _ h44 n44 ⟨b44,a44,l44,c44,d44,e44,f44,g44,rfl,i44,j44⟩ y44 x44;refine sS [.bool b44,.slice a44 l44 c44,.bool d44,.slice e44 f44 g44] ?_;intro h45 p45 o45;refine zq ?_;exact ⟨_,_,_,_,_,_,_,_,rfl,(i44.t zt),(j44.t zt)⟩
    refine zG ?_;refine sC (uL _ (ix.t zt) (iy.t zt) (q:=Rat.divInt x y) (by first|exact (oz zo).1|exact (jo zo).1|exact (tL zo ‹_›).1|exact (qQ zo ‹_›).1) (by first|exact (oz zo).2|exact (jo zo).2|exact (tL zo ‹_›).2|exact (qQ zo ‹_›).2)) ?_;rintro _ h46 n46 ⟨b46,a46,l46,c46,d46,e46,f46,g46,rfl,i46,j46⟩ y46 x46;refine sS [.bool b46,.slice a46 l46 c46,.bool d46,.slice e46 f46 g46] ?_;intro h47 p47 o47;refine zq ?_;exact ⟨_,_,_,_,_,_,_,_,rfl,(i46.t zt),(j46.t zt)⟩
   refine zG ?_;refine sT #[.bool sx,.slice ax lx cx,.bool false,.slice none 0 0] ?_;refine sS [.bool sx,.slice ax lx cx,.bool false,.slice none 0 0] ?_;intro h48 p48 o48;refine zq ?_;exact ⟨_,_,_,_,_,_,_,_,rfl,(ix.t zt).as ((by first|exact (zbd ‹_›).1.symm|exact (zeu ‹_›).1.symm)),(IW.zero _ _).as ((by first|exact (zbd ‹_›).2.symm|exact (zeu ‹_›).2.symm))⟩
  refine zG ?_;refine sT #[.bool false,.slice none 0 0,.bool false,.slice none 0 0] ?_;refine sS [.bool false,.slice none 0 0,.bool false,.slice none 0 0] ?_;intro h49 p49 o49;refine zq ?_;exact ⟨_,_,_,_,_,_,_,_,rfl,(IW.zero _ _).as (by rw [q15,Rat.zero_divInt];rfl),(IW.zero _ _).as (by rw [q15,Rat.zero_divInt];rfl)⟩
 exact absurd q14 hy0
theorem zhu (k:Nat){x:Rat}{y:Int}(ix:IW h n sx ax lx cx x.num)(jx:IW h n dx ex fx gx (denZ x))(iy:IW h n sy ay ly cy y)(hx:x.num.natAbs<BW)(hx2:(denZ x).natAbs<BW)(hy:y.natAbs<BW):CX (cal (k+9)) 228 [.agg #[.bool sx,.slice ax lx cx,.bool dx,.slice ex fx gx],.agg #[.bool sy,.slice ay ly cy]] h n (IV (x.num*y.tdiv (x.den:Int))):=by
 refine zk (fn:=Tryz.f228) R4 ?_;refine zG ?_;refine sB [.bool sx,.slice ax lx cx,.bool dx,.slice ex fx gx] ?_;intro h11 p11 x11;refine sB [.bool sy,.slice ay ly cy] ?_;intro h12 p12 x12;refine sA ?_;intro h13 p13 x13;refine zG ?_;refine sC (xH _ (jx.t zt)) ?_;rintro _ h14 n14 ⟨b14,rfl,bq14⟩ y14 x14;rcases bvs bq14 with ⟨rfl,q14⟩|⟨rfl,q14⟩
 ·refine zG ?_;refine zl [0,1,0,0,8,28,63,127] rfl ?_;refine zH ?_;refine dC (quoX _ (iy.t zt) (jx.t zt) szB szB szN) ?_;rintro _ h15 n15 ⟨b15,a15,l15,c15,rfl,i15⟩ y15 x15;refine dC (mulX _ (ix.t zt) i15 szB szB) ?_;rintro _ h16 n16 ⟨b16,a16,l16,c16,rfl,i16⟩ y16 x16;refine dS [.bool b16,.slice a16 l16 c16] ?_;intro h17 p17 o17;refine zq ?_;exact ⟨_,_,_,_,rfl,(i16.t zt).as (by rw [vm q14])⟩
 refine zG ?_;refine sC (mulX _ (ix.t zt) (iy.t zt) szB szB) ?_;rintro _ h18 n18 ⟨b18,a18,l18,c18,rfl,i18⟩ y18 x18;refine sS [.bool b18,.slice a18 l18 c18] ?_;intro h19 p19 o19;refine zq ?_;exact ⟨_,_,_,_,rfl,(i18.t zt).as (by rw [show (x.den:Int)=1 from by have:=yw.1 q14;omega,Int.tdiv_one])⟩
end
section
variable {b cx cy fx fy gx gy lx ly m n:Nat}{h:HF}{dx dy sx sy:Bool}{ax ay ex ey:Option Addr}
theorem zit {x:Rat}(h:x.num<0):(x⁻¹).num= -((x.den:Int))∧((x⁻¹).den:Int)= -x.num:=by
 rw [Rat.num_inv,Rat.den_inv,Int.sign_eq_neg_one_of_neg h,if_neg zo];omega
theorem zis {x:Rat}(h:0<x.num):(x⁻¹).num=(x.den:Int)∧((x⁻¹).den:Int)=x.num:=by
 rw [Rat.num_inv,Rat.den_inv,Int.sign_eq_one_of_pos h,if_neg zo];omega
theorem zk6 {x:Rat}(h:x.num=0):x⁻¹ =0:=by rw [Rat.num_eq_zero.1 h,Rat.inv_zero]
theorem Sz.inv {x:Rat}(h:Sz m x):Sz m x⁻¹ :=by
 have hd:=x.den_pos;refine ⟨?_,?_⟩
 ·rcases Int.lt_trichotomy x.num 0 with h0|h0|h0
  ·rw [(zit h0).1,Int.natAbs_neg,Int.natAbs_natCast];exact h.2
  ·rw [zk6 h0];exact Nat.lt_of_le_of_lt (Nat.zero_le _) h.2
  rw [(zis h0).1,Int.natAbs_natCast];exact h.2
 rw [Rat.den_inv];split
 ·exact Nat.lt_of_le_of_lt hd h.2
 exact h.1
theorem invQ (k:Nat){x:Rat}(ix:IW h n sx ax lx cx x.num)(jx:IW h n dx ex fx gx (denZ x)):CX (cal (k+4)) 206 [.agg #[.bool sx,.slice ax lx cx,.bool dx,.slice ex fx gx]] h n (QV x⁻¹):=by
 refine zk (fn:=Tryz.f206) R4 ?_;refine zG ?_;refine sB [.bool sx,.slice ax lx cx,.bool dx,.slice ex fx gx] ?_;intro h11 p11 x11;refine sA ?_;intro h12 p12 x12;refine zG ?_;refine sC (zhs _ (ix.t zt)) ?_;rintro _ h13 n13 ⟨s13,rfl,q13⟩ y13 x13;rcases q13 with ⟨rfl,q13⟩|⟨rfl,q13⟩|⟨rfl,q13⟩
 ·refine zG ?_;refine zl [0,1,3,0,8,31,63,127] rfl ?_;refine zH ?_;refine dC (denQ _ (ix.t zt) (jx.t zt)) ?_;rintro _ h14 n14 ⟨b14,a14,l14,c14,rfl,i14⟩ y14 x14;refine dC (negX _ i14) ?_;rintro _ h15 n15 ⟨b15,a15,l15,c15,rfl,i15⟩ y15 x15;refine zH ?_;refine dC (negX _ (ix.t zt)) ?_;rintro _ h16 n16 ⟨b16,a16,l16,c16,rfl,i16⟩ y16 x16;refine dC (uL _ (i15.t zt) i16 (q:=x⁻¹) (zit q13).1 (zit q13).2) ?_;rintro _ h17 n17 ⟨b17,a17,l17,c17,d17,e17,f17,g17,rfl,i17,j17⟩ y17 x17;refine dS [.bool b17,.slice a17 l17 c17,.bool d17,.slice e17 f17 g17] ?_;intro h18 p18 o18;refine zq ?_;exact ⟨_,_,_,_,_,_,_,_,rfl,(i17.t zt),(j17.t zt)⟩
 ·refine zG ?_;refine sT #[.bool false,.slice none 0 0,.bool false,.slice none 0 0] ?_;refine sS [.bool false,.slice none 0 0,.bool false,.slice none 0 0] ?_;intro h19 p19 o19;refine zq ?_;exact (show x⁻¹ =0 from zk6 q13)▸QV.zero _ _
 refine zG ?_;refine zl [0,1,0,4,15,31] rfl ?_;refine zH ?_;refine dC (denQ _ (ix.t zt) (jx.t zt)) ?_;rintro _ h20 n20 ⟨b20,a20,l20,c20,rfl,i20⟩ y20 x20;refine zH ?_;refine dC (uL _ i20 (ix.t zt) (q:=x⁻¹) (zis q13).1 (zis q13).2) ?_;rintro _ h21 n21 ⟨b21,a21,l21,c21,d21,e21,f21,g21,rfl,i21,j21⟩ y21 x21;refine dS [.bool b21,.slice a21 l21 c21,.bool d21,.slice e21 f21 g21] ?_;intro h22 p22 o22;refine zq ?_;exact ⟨_,_,_,_,_,_,_,_,rfl,(i21.t zt),(j21.t zt)⟩
theorem divQ (k:Nat){x:Rat}{y:Rat}(g:GG h n)(ix:IW h n sx ax lx cx x.num)(jx:IW h n dx ex fx gx (denZ x))(iy:IW h n sy ay ly cy y.num)(jy:IW h n dy ey fy gy (denZ y)){a:Nat}(hx:Sz a x)(hy:Sz b y)(hab:a+b≤64):CX (cal (k+11)) 169 [.agg #[.bool sx,.slice ax lx cx,.bool dx,.slice ex fx gx],.agg #[.bool sy,.slice ay ly cy,.bool dy,.slice ey fy gy]] h n (QV (x/y)):=by
 refine zk (fn:=Tryz.f169) R4 ?_;refine zG ?_;refine sB [.bool sx,.slice ax lx cx,.bool dx,.slice ex fx gx] ?_;intro h11 p11 x11;refine sB [.bool sy,.slice ay ly cy,.bool dy,.slice ey fy gy] ?_;intro h12 p12 x12;refine sA ?_;intro h13 p13 x13;refine zG ?_;refine zl [0,0,2,7,15] rfl ?_;refine zH ?_;refine dC (invQ _ (iy.t zt) (jy.t zt)) ?_;rintro _ h14 n14 ⟨b14,a14,l14,c14,d14,e14,f14,g14,rfl,i14,j14⟩ y14 x14;refine dC (mulQ _ (g.t zt) (ix.t zt) (jx.t zt) i14 j14 hx hy.inv hab) ?_;rintro _ h15 n15 ⟨b15,a15,l15,c15,d15,e15,f15,g15,rfl,i15,j15⟩ y15 x15;refine dS [.bool b15,.slice a15 l15 c15,.bool d15,.slice e15 f15 g15] ?_;intro h16 p16 o16;refine zq ?_;exact ⟨_,_,_,_,_,_,_,_,rfl,(i15.t zt).as (by rw [Rat.div_def]),(j15.t zt).as (by rw [Rat.div_def])⟩
end
section
variable {h:HF}{cx cy lx ly n:Nat}{sx sy:Bool}{ax ay:Option Addr}
theorem zin (a b:Nat):a*(b/Nat.gcd a b)=((Nat.lcm a b:Nat):Int).natAbs:=by
 rw [Int.natAbs_natCast,Nat.lcm,Nat.mul_div_assoc _ (Nat.gcd_dvd_right a b)]
theorem lcmX (k:Nat){x:Int}{y:Int}(g:GG h n)(ix:IW h n sx ax lx cx x)(iy:IW h n sy ay ly cy y)(hx:x.natAbs<BW)(hy:y.natAbs<BW):CX (cal (k+8)) 244 [.agg #[.bool sx,.slice ax lx cx],.agg #[.bool sy,.slice ay ly cy]] h n (IV ((Nat.lcm x.natAbs y.natAbs:Nat):Int)):=by
 refine zk (fn:=Tryz.f244) R4 ?_;refine zG ?_;refine sB [.bool sx,.slice ax lx cx] ?_;intro h11 p11 x11;refine sB [.bool sy,.slice ay ly cy] ?_;intro h12 p12 x12;refine sA ?_;intro h13 p13 x13;refine zG ?_;by_cases q14:(lx:Int)=0
 ·refine zG ?_;refine sT #[.bool false,.slice none 0 0] ?_;refine sS [.bool false,.slice none 0 0] ?_;intro h15 p15 o15;refine zq ?_;exact ⟨_,_,_,_,rfl,(IW.zero _ _).as (by have:=ix.2.zero;have:=iy.2.zero;rcases (show x.natAbs=0∨y.natAbs=0 by omega) with e|e<;>rw [e]<;>simp)⟩
 refine zG ?_;by_cases q16:(ly:Int)=0
 ·refine zG ?_;refine sT #[.bool false,.slice none 0 0] ?_;refine sS [.bool false,.slice none 0 0] ?_;intro h17 p17 o17;refine zq ?_;exact ⟨_,_,_,_,rfl,(IW.zero _ _).as (by have:=ix.2.zero;have:=iy.2.zero;rcases (show x.natAbs=0∨y.natAbs=0 by omega) with e|e<;>rw [e]<;>simp)⟩
 refine zG ?_;have hy0:y.natAbs≠0:=fun e=>q16 (by have:=iy.2.zero;omega);refine zl [0,1,0,4,0,16,60,127,255,511,511,1023,4095] rfl ?_;refine zH ?_;refine dC (zlb _ (g.t zt) (ix.t zt).2 (iy.t zt).2 zhh) ?_;rintro _ h18 n18 ⟨a18,l18,c18,rfl,i18⟩ y18 x18;refine dC (zlk _ (iy.t zt).2 i18 ⟨hy,Nat.lt_of_le_of_lt (Nat.gcd_le_right _ (Nat.pos_of_ne_zero hy0)) hy⟩ (by have:=Nat.gcd_pos_of_pos_right x.natAbs (Nat.pos_of_ne_zero hy0);omega)) ?_;rintro _ h19 n19 ⟨a19,l19,c19,d19,e19,f19,rfl,i19,j19⟩ y19 x19;refine zJ ?_;refine sC (zal _ (ix.t zt).2 i19 ⟨hx,Nat.lt_of_le_of_lt (Nat.div_le_self _ _) hy⟩) ?_;rintro _ h20 n20 ⟨a20,l20,c20,rfl,i20⟩ y20 x20;refine sT #[.bool false,.slice a20 l20 c20] ?_;refine sS [.bool false,.slice a20 l20 c20] ?_;intro h21 p21 o21;refine zq ?_;exact ⟨_,_,_,_,rfl,by rw [decide_eq_false];exact Int.not_lt.2 (Int.natCast_nonneg _),(i20.t zt).as (zin _ _)⟩
end
def lcmD:List Rat→Nat→Nat
 |[],m=>m
 |q::l,m=>lcmD l (Nat.lcm m q.den)
theorem ot:∀{l:List Rat} {q:Rat} {m:Nat},lcmD (l++[q]) m=Nat.lcm (lcmD l m) q.den:=by
 intro l;induction l with
 |nil=>intro q m;rfl
 |cons x l ih=>intro q m;exact ih
theorem fI:∀{l:List Rat} {m:Nat},(∀q∈l,q.den∣D)→m∣D→lcmD l m∣D:=by
 intro l;induction l with
 |nil=>intro m _ h;exact h
 |cons x l ih=>intro m h1 h2;exact ih (fun q hq=>h1 q (List.mem_cons_of_mem _ hq)) (Nat.lcm_dvd h2 (h1 x (List.mem_cons_self ..)))
theorem zax:∀{l:List Rat} {m:Nat},m∣lcmD l m:=by
 intro l;induction l with
 |nil=>intro m;exact Nat.dvd_refl m
 |cons x l ih=>intro m;exact Nat.dvd_trans (Nat.dvd_lcm_left _ _) ih
theorem zek:∀{l:List Rat} {m:Nat} {q:Rat},q∈l→q.den∣lcmD l m:=by
 intro l;induction l with
 |nil=>intro m q h;cases h
 |cons x l ih=>
  intro m q h;rcases List.mem_cons.1 h with rfl|h
  ·exact Nat.dvd_trans (Nat.dvd_lcm_right _ _) zax
  exact ih h
theorem zej {l:List Rat}:∀{m:Nat},0<m→0<lcmD l m:=by
 induction l with
 |nil=>intro m h;exact h
 |cons x l ih=>intro m h;exact ih (Nat.lcm_pos h x.den_pos)
theorem te (q:Rat):q*(q.den:Rat)=(q.num:Rat):=by
 have h:=Rat.num_divInt_den q;have hd:((q.den:Int):Rat)≠0:=fun e=>by have:=vj.1 e;have:=q.den_pos;omega
 rw [Rat.divInt_eq_div,Rat.div_def] at h;rw [←Rat.intCast_natCast];have h2:(q.num:Rat)*((q.den:Int):Rat)⁻¹ *((q.den:Int):Rat)=q.num:=by rw [Rat.mul_assoc,Rat.inv_mul_cancel _ hd,Rat.mul_one]
 rw [h] at h2;exact h2
def nfZ (den:Nat)(x:Rat):Int:=x.num*(den:Int).tdiv (x.den:Int)
theorem zgf {den:Nat}{x:Rat}(h:x.den∣den):((nfZ den x:Int):Rat)=x*(den:Rat):=by
 obtain ⟨m,rfl⟩:=h;have hp:=x.den_pos;unfold nfZ;rw [Int.natCast_mul,Int.mul_tdiv_cancel_left _ zo,Rat.intCast_mul,←te x,Rat.natCast_mul,Rat.mul_assoc,Rat.intCast_natCast]
def FN (D B:Nat)(q:Rat):Prop:=∃z:Int,q*(D:Rat)=(z:Rat)∧z.natAbs≤B
theorem zh9 {den:Nat}{x:Rat}(h:x.den∣den)(hd:den∣D)(hD:0<D)(f:FN D B x):(nfZ den x).natAbs≤B:=by
 obtain ⟨m,rfl⟩:=hd;obtain ⟨z,hz,hb⟩:=f;have e:=zgf h;have e2:(z:Rat)=((nfZ den x*(m:Int):Int):Rat):=by
  rw [Rat.intCast_mul,e,←hz,Rat.natCast_mul,Rat.mul_assoc,Rat.intCast_natCast]
 have e3:=Rat.intCast_inj.1 e2;have hm:0<m:=Nat.pos_of_mul_pos_left hD;rw [e3,Int.natAbs_mul,Int.natAbs_natCast] at hb;exact Nat.le_trans (Nat.le_mul_of_pos_right _ hm) hb
def gcF (f:Nat→Int):Nat→Nat
 |0=>0
 |j+1=>Nat.gcd (gcF f j) (f j).natAbs
theorem ziz {f:Nat→Int}:∀{m j:Nat},j<m→gcF f m∣(f j).natAbs:=by
 intro m;induction m with
 |zero=>intro j h;omega
 |succ m ih=>
  intro j h;rcases Nat.lt_or_ge j m with h1|h1
  ·exact Nat.dvd_trans (Nat.gcd_dvd_left _ _) (ih h1)
  rw [show j=m by omega];exact Nat.gcd_dvd_right _ _
theorem zgo {f:Nat→Int}(hB:∀j,j<m→(f j).natAbs≤B):gcF f m≤B:=by
 induction m with
 |zero=>exact Nat.zero_le _
 |succ m ih=>
  have h1:=ih fun j hj=>hB j zo;have h2:=hB m zo;show Nat.gcd (gcF f m) (f m).natAbs≤B;by_cases h0:gcF f m=0
  ·rw [h0,Nat.gcd_zero_left];exact h2
  exact Nat.le_trans (Nat.gcd_le_left _ (Nat.pos_of_ne_zero h0)) h1
def ccF (f:Nat→Int)(m:Nat):Nat:=if gcF f m=0 then 1 else gcF f m
theorem oZ {f:Nat→Int}:0<ccF f m:=by
 unfold ccF;split
 ·decide
 omega
theorem zjk {f:Nat→Int}{j:Nat}(h:j<m):((ccF f m:Nat):Int)∣f j:=by
 unfold ccF;split
 ·exact Int.one_dvd _
 exact Int.ofNat_dvd_left.2 (ziz h)
theorem zlu {f:Nat→Int}(h1:1≤B)(hB:∀j,j<m→(f j).natAbs≤B):ccF f m≤B:=by
 unfold ccF;split
 ·exact h1
 exact zgo hB
def rowQ (N:Nat)(a:Nat→Nat→Rat)(i:Nat):List Rat:=(List.range N).map (a i)
def deni (N:Nat)(a:Nat→Nat→Rat)(i:Nat):Nat:=lcmD (rowQ N a i) 1
def nfi (N:Nat)(a:Nat→Nat→Rat)(i j:Nat):Int:=nfZ (deni N a i) (a i j)
def cci (N:Nat)(a:Nat→Nat→Rat)(i:Nat):Nat:=ccF (nfi N a i) N
def tT (N:Nat)(a:Nat→Nat→Rat)(i j:Nat):Int:=(nfi N a i j).tdiv (cci N a i:Int)
def tS (N:Nat)(a:Nat→Nat→Rat)(i:Nat):Rat:=Rat.divInt (deni N a i:Int) (cci N a i:Int)
section
variable {N:Nat}{a:Nat→Nat→Rat}{i j:Nat}
theorem zhw (hj:j<N):a i j∈rowQ N a i:=List.mem_map.2 ⟨j,List.mem_range.2 hj,rfl⟩
theorem ze4:0<deni N a i:=zej zd
theorem fX (hj:j<N):(a i j).den∣deni N a i:=zek (zhw hj)
theorem fY (hd:∀j,j<N→(a i j).den∣D):deni N a i∣D:=fI (fun q hq=>by
 obtain ⟨j,hj,rfl⟩:=List.mem_map.1 hq;exact hd j (List.mem_range.1 hj)) (Nat.one_dvd _)
theorem na (h:0<m):((m:Int):Rat)≠0:=fun e=>by have:=vj.1 e;omega
theorem zj9:tS N a i=(deni N a i:Int)/((cci N a i:Int):Rat):=by
 unfold tS;rw [Rat.divInt_eq_div]
theorem nJ:0<tS N a i:=by
 rw [zj9,Rat.div_def];have h1:(0:Rat)<((deni N a i:Int):Rat):=Rat.intCast_pos.2 (by have:=ze4 (N:=N) (a:=a) (i:=i);omega);have h2:(0:Rat)<((cci N a i:Int):Rat):=Rat.intCast_pos.2 (by have:=oZ (f:=nfi N a i) (m:=N);unfold cci;omega);exact Rat.mul_pos h1 (Rat.inv_pos.2 h2)
theorem zma (hj:j<N):((tT N a i j:Int):Rat)=tS N a i*a i j:=by
 have hd:=zjk (f:=nfi N a i) hj;have hc:((cci N a i:Int):Rat)≠0:=na (oZ (f:=nfi N a i) (m:=N));obtain ⟨z,hz⟩:=hd;have h1:nfi N a i j=(cci N a i:Int)*z:=hz;have h0:(cci N a i:Int)≠0:=by have:=oZ (f:=nfi N a i) (m:=N);unfold cci;omega
 have e:=zgf (fX (N:=N) (a:=a) (i:=i) hj);have e2:((nfi N a i j:Int):Rat)=a i j*(deni N a i:Rat):=e;unfold tT;rw [h1,Int.mul_tdiv_cancel_left _ h0];rw [h1,Rat.intCast_mul] at e2;rw [zj9,Rat.div_def,Rat.mul_assoc,Rat.mul_comm _ (a i j),←Rat.mul_assoc,Rat.mul_comm _ (a i j),Rat.intCast_natCast (deni N a i),←e2,Rat.mul_comm _ (z:Rat),Rat.mul_assoc,Rat.mul_inv_cancel _ hc,Rat.mul_one]
theorem bM:TabR N (tT N a) 1 (tS N a) a 0:=by
 intro i j _ _ _ hj;rw [zma hj];show _=(1:Rat)*tS N a i*a i j;rw [Rat.one_mul]
theorem lh (hd:∀j,j<N→(a i j).den∣D)(hD:0<D)(f:∀j,j<N→FN D B (a i j))(hj:j<N):(nfi N a i j).natAbs≤B:=zh9 (fX hj) (fY hd) hD (f j hj)
theorem zj8 (hd:∀j,j<N→(a i j).den∣D)(hD:0<D)(f:∀j,j<N→FN D B (a i j))(hj:j<N):(tT N a i j).natAbs≤B:=by
 unfold tT;rw [Int.natAbs_tdiv];exact Nat.le_trans (Nat.div_le_self _ _) (lh hd hD f hj)
theorem zb8 (hd:∀j,j<N→(a i j).den∣D)(hD:0<D):deni N a i≤D:=Nat.le_of_dvd hD (fY hd)
theorem zg3 (hd:∀j,j<N→(a i j).den∣D)(hD:0<D)(f:∀j,j<N→FN D B (a i j))(h1:1≤B):cci N a i≤B:=zlu h1 fun j hj=>lh hd hD f hj
end
section
variable {D j n:Nat}{q:Rat}{h:HF}{aq:Option Addr}
theorem zaw {l:List Rat}(hD:0<D)(hb:D<BW)(hd:∀q∈l,q.den∣D):((lcmD (l.take j) 1:Nat):Int).natAbs<BW:=by
 rw [Int.natAbs_natCast];exact Nat.lt_of_le_of_lt (Nat.le_of_dvd hD (fI (fun q hq=>hd q (List.mem_of_mem_take hq)) (Nat.one_dvd _))) hb
theorem zb9 (hD:0<D)(hb:D<BW)(hd:q.den∣D):(denZ q).natAbs<BW:=by
 have h:=Nat.lt_of_le_of_lt (Nat.le_of_dvd hD hd) hb;unfold denZ;split
 ·exact Nat.lt_of_le_of_lt (Nat.zero_le _) hb
 rw [Int.natAbs_natCast];exact h
theorem zat {l:List Rat}(g:l[j]?=some q)(h:denZ q=0):((lcmD (l.take j) 1:Nat):Int)=((lcmD (l.take (j+1)) 1:Nat):Int):=by
 rw [xf g,ot,yw.1 h,Nat.lcm_one_right]
theorem zau {l:List Rat}(g:l[j]?=some q)(h0:¬denZ q=0)(h:denZ q=((lcmD (l.take j) 1:Nat):Int)):((lcmD (l.take j) 1:Nat):Int)=((lcmD (l.take (j+1)) 1:Nat):Int):=by
 rw [vm h0] at h;have h:q.den=lcmD (l.take j) 1:=Int.ofNat.inj h;rw [xf g,ot,←h,Nat.lcm_self]
theorem zav {l:List Rat}(g:l[j]?=some q)(h0:¬denZ q=0):((Nat.lcm ((lcmD (l.take j) 1:Nat):Int).natAbs (denZ q).natAbs:Nat):Int)=((lcmD (l.take (j+1)) 1:Nat):Int):=by
 rw [vm h0,Int.natAbs_natCast,Int.natAbs_natCast,xf g,ot]
theorem zjh (k:Nat)(g:GG h n){lq cq:Nat}{qs:List Rat}(iq:QS h n (.slice aq lq cq) qs)(hD:0<D)(hb:D<BW)(hd:∀q∈qs,q.den∣D)(hl:qs.length<1000000):CX (cal (k+9)) 227 [.slice aq lq cq] h n (IV ((lcmD qs 1:Nat):Int)):=by
 have lq1:=iq.len;refine zk (fn:=Tryz.f227) R4 ?_;refine zG ?_;refine sA ?_;intro h11 p11 x11;refine zG ?_;refine sC (zag _ _ _) ?_;rintro _ h12 n12 ⟨b12,a12,l12,c12,rfl,i12⟩ y12 x12;refine sA ?_;intro h13 p13 x13;refine sS [.bool b12,.slice a12 l12 c12] ?_;intro h14 p14 o14;refine zG ?_;refine sF (α:=Nat×Bool×Option Addr×Nat×Nat) (fun z=>[(2,.pointer (some ⟨3*n+2,0,none⟩)),(3,.pointer (some ⟨3*n12+2,0,none⟩)),(7,.slice aq lq cq),(8,.int .i64 (lq:Int)),(9,.int .i64 (z.1:Int))]) (fun z h' n' w'=>w'=[]∧n12+1≤n'∧ExtB (n12+1) [3*n12+2] h14 h'∧h' (3*n12+2)=some (.row [.bool z.2.1,.slice z.2.2.1 z.2.2.2.1 z.2.2.2.2] 137)∧IW h' n' z.2.1 z.2.2.1 z.2.2.2.1 z.2.2.2.2 (((lcmD (qs.take z.1) 1:Nat):Int))∧z.1≤qs.length) (fun z=>qs.length-z.1) (0,b12,a12,l12,c12) ⟨rfl,Nat.le_refl _,ExtB.refl _ _ _,p14,((i12.t zt).as (by rw [List.take_zero];rfl)),(Nat.zero_le _)⟩ ?_;rintro ⟨j,bS,aS,lS,kS⟩ t h15 n15 _ ⟨rfl,y15,Y15,p15_0,i15_0_0,hj⟩;have p15_0:h15 (3*n12+2)=some (.row [.bool bS,.slice aS lS kS] 137):=p15_0;have i15_0_0:IW h15 n15 bS aS lS kS (((lcmD (qs.take j) 1:Nat):Int)):=i15_0_0;have hj:j≤qs.length:=hj;refine zG ?_;by_cases q16:(j:Int)<(lq:Int)
 ·refine zG ?_;obtain ⟨d17,g17⟩:∃d,(qs)[j]?=some d:=⟨_,List.getElem?_eq_getElem zo⟩;obtain ⟨k17,o17,b17,a17,l17,c17,u17,v17,w17,x17,e17,m17,r17,t17,i17,j17⟩:=QS.at iq g17;refine sI e17 r17 ?_;refine sL t17 m17 0 ?_;refine sA ?_;intro h18 p18 x18;refine sS [.bool b17,.slice a17 l17 c17,.bool u17,.slice v17 w17 x17] ?_;intro h19 p19 o19;refine zG ?_;refine sC (xH _ (j17.x zx)) ?_;rintro _ h20 n20 ⟨b20,rfl,bq20⟩ y20 x20;rcases bvs bq20 with ⟨rfl,q20⟩|⟨rfl,q20⟩
  ·refine zG ?_;refine sC ((zi2 _ (j17.x zx) (i15_0_0.t zt) (zb9 hD hb (hd _ (List.mem_of_getElem? g17))) (zaw hD hb hd)).cx) ?_;rintro _ h21 n21 ⟨b21,rfl,bq21⟩ y21 x21;rcases bvs bq21 with ⟨rfl,q21⟩|⟨rfl,q21⟩
   ·refine zG ?_;refine sC (lcmX _ (g.x zx) (i15_0_0.t zt) (j17.x zx) (zaw hD hb hd) (zb9 hD hb (hd _ (List.mem_of_getElem? g17)))) ?_;rintro _ h22 n22 ⟨b22,a22,l22,c22,rfl,i22⟩ y22 x22;refine sS [.bool b22,.slice a22 l22 c22] ?_;intro h23 p23 o23;refine zG ?_;exact sK (j+1,b22,a22,l22,c22) ⟨rfl,zo,zy,p23,((i22.t zt).as (zav g17 q20)),(by show j+1≤qs.length;omega)⟩
   refine zG ?_;exact sK (j+1,bS,aS,lS,kS) ⟨rfl,zo,zy,zp,((i15_0_0.t zt).as (zau g17 q20 q21)),(by show j+1≤qs.length;omega)⟩
  refine zG ?_;exact sK (j+1,bS,aS,lS,kS) ⟨rfl,zo,zy,zp,((i15_0_0.t zt).as (zat g17 q20)),(by show j+1≤qs.length;omega)⟩
 refine zG ?_;refine sS [.bool bS,.slice aS lS kS] ?_;intro h24 p24 o24;refine zq ?_;exact ⟨_,_,_,_,rfl,(i15_0_0.t zt).as (by rw [show j=qs.length by omega,List.take_length])⟩
end
section
structure TapeI where
 m:Nat
 bt:Nat
 a:Option Addr
 len:Nat
 cap:Nat
 L:List Int
structure Tp (h:HF)(T:TapeI):Prop where
 bt:T.bt<3*T.m
 len:T.L.length=T.len
 le:T.len≤400
 ne:∀x,T.a=some x→x.block≠T.bt
 sl:Sl h T.m 1 (.slice T.a T.len T.cap) (i64s T.L)
 row:∃(pos:Nat) (e:TypeId),h T.bt=some (.row [.slice T.a T.len T.cap,.int .i64 (pos:Int)] e)∧pos≤T.len
theorem Tp.ext {T:TapeI}(t:Tp h T)(e:Ext n h h')(hn:T.m≤n):Tp h' T:=by
 obtain ⟨pos,ty,h1,h2⟩:=t.row;exact ⟨t.bt,t.len,t.le,t.ne,t.sl.ext (e.mono hn) (Nat.le_refl _),pos,ty,by rw [e _ (by have:=t.bt;omega)];exact h1,h2⟩
theorem Tp.upd {T:TapeI}{x:Option BF}(t:Tp h T)(hb:3*T.m≤b):Tp (GL.upd h b x) T:=t.ext (n:=T.m) (Ext.upd hb) (Nat.le_refl _)
theorem eL (v m:Int)(hm:0<m):0≤(v.tmod m+m).tmod m∧(v.tmod m+m).tmod m<m∧ -m<v.tmod m∧v.tmod m<m:=by
 have h1:=Int.lt_tmod_of_pos v hm;have h2:=Int.tmod_lt_of_pos v hm;have h3:=Int.tmod_nonneg m (show 0≤v.tmod m+m by omega);have h4:=Int.tmod_lt_of_pos (v.tmod m+m) hm;exact ⟨h3,h4,h1,h2⟩
theorem um (k:Nat){T:TapeI}{m:Int}(hm:0<m∧m<1000000000)(ht:Tp h T)(hn:T.m≤n):CF (cal (k+1)) 10 [.pointer (some ⟨T.bt,0,none⟩),.int .i64 m] h n fun v h' n' w=>(∀b∈w,b=T.bt)∧n'=n∧Tp h' T∧(∀b,b≠T.bt→h' b=h b)∧∃r,v=.int .i64 r∧0≤r∧r<m:=by
 obtain ⟨M,bt,a,len,cap,L⟩:=T;obtain ⟨hbt,hL,hlen,hne,hsl,pos,e,hrow,hpos⟩:=ht;simp only at hbt hL hlen hne hsl hrow hpos hn ⊢;refine pw (fn:=Tryz.f10) rfl rfl rfl rfl ?_;refine zN ?_;refine sh ?_;rw [vh rfl];repeat refine zR ?_
 refine zg R6 hrow (v:=.int .i64 (pos:Int)) R2 ?_;repeat refine zR ?_
 refine zg R6 hrow (v:=.slice a len cap) R2 ?_;refine zM ?_;by_cases hp:pos=len
 ·refine sh ?_;refine Zb ?_;refine sh ?_;exact ⟨rfl,_,zi rfl,fun b hb=>absurd hb List.not_mem_nil,rfl,⟨hbt,hL,hlen,hne,hsl,pos,e,hrow,hpos⟩,fun _ _=>rfl,0,rfl,Int.le_refl _,hm.1⟩
 obtain ⟨b,off,x,cs,rfl,hb3,hx,hc,hcap,hle,he⟩:=hsl.inv zo;obtain ⟨v,hv⟩:∃v,L[pos]?=some v:=⟨L[pos]'zo,List.getElem?_eq_getElem zo⟩;have hcell:cs[off+pos]?=some (.int .i64 v):=yX he (by rw [i64s,List.getElem?_map,hv];rfl);have hbne:b≠bt:=hne _ rfl;refine sh ?_;refine Za ?_;rw [vh rfl];repeat refine zR ?_
 refine zg R6 hrow (v:=.slice (some ⟨b,off,none⟩) len cap) R2 ?_;repeat refine zR ?_
 refine zg R6 hrow (v:=.int .i64 (pos:Int)) R2 ?_;refine yR R8 zo ?_;refine zg R6 hx (v:=.int .i64 v) ⟨hc,(by rw [←hcell];congr 1;omega)⟩ ?_;refine sh ?_;repeat refine zR ?_
 refine zg R6 hrow (v:=.int .i64 (pos:Int)) R2 ?_;repeat refine zR ?_
 refine kG (cs:=[.int .i64 ((pos:Int)+1)]) rfl rfl rfl rfl rfl rfl rfl rfl hrow zb (by show bt<3*n;omega) ?_;refine zN ?_;obtain ⟨r1,r2,r3,r4⟩:=eL v m hm.1;repeat refine zR ?_
 refine gZ R6 zo ?_;repeat refine zR ?_
 refine gZ R6 zo ?_;refine sh ?_;refine ⟨rfl,_,zi rfl,fun b hb=>?_,rfl,⟨hbt,hL,hlen,hne,hsl.keep (fun a l c e=>?_) (Nat.le_refl _),pos+1,e,ze _ _ _,by show pos+1≤len;omega⟩,fun b hb=>zj hb,_,rfl,r1,r2⟩
 ·exact List.mem_singleton.1 hb
 injection e with e1
 injection e1 with e1
 subst e1;exact zj hbne
theorem ph (k:Nat){T:TapeI}{K:Int}(hK:0≤K∧K<1000000)(ht:Tp h T)(hn:T.m≤n):CF (cal (k+4)) 41 [.pointer (some ⟨T.bt,0,none⟩),.int .i64 K] h n fun v h' n' w=>(∀b∈w,b=T.bt)∧n≤n'∧Tp h' T∧ExtT n T.bt h h'∧∃n1 n2 ln x,v=.agg #[n1,n2,.bool false,.slice none 0 0]∧RatR h' n' n1 n2 (.bool false) (.slice none 0 0) ((x:Int):Rat) ln []∧ -K≤x∧x≤K∧ya n n2∧ln.length≤2:=by
 have hbt:=ht.bt;refine zk (fn:=Tryz.f41) R4 ?_;refine zN ?_;refine zT R5 ?_;refine zN ?_;refine Zc ?_;refine st_mul rfl rfl rfl rfl rfl rfl zo ?_;repeat refine zR ?_
 refine zu _ R5 (um (k+2) zo (ht.upd zo) zo) ?_;rintro _ h1 _ w1 ⟨hw1,rfl,ht1,hx1,r,rfl,hr0,hr1⟩;repeat refine zR ?_
 refine zu _ R5 (r_ok k _ _ (r-K) zo) ?_;rintro _ h2 n2 _ ⟨rfl,hn2,hx2,n1,n2',ln,rfl,hq,hf,hln⟩;have hcell:∃e,h2 (3*n+2)=some (.row [.bool false,.slice none 0 0,.bool false,.slice none 0 0] e):=⟨_,by rw [hx2 _ zo,hx1 _ zo,ze];rfl⟩;obtain ⟨e,hcell⟩:=hcell;have h1s:ones [n1,n2',.bool false,.slice none 0 0]=true:=by
  rw [hq.num.neg];show ones (n2'::_)=true;rw [hq.num.sl.ones];rfl
 refine zv [n1,n2',.bool false,.slice none 0 0] R7 h1s hcell rfl (by show 3*n≤_;omega) ?_;refine zN ?_;refine yP R5 (ze _ _ _) rfl ⟨?_,zo,(ht1.ext hx2 zo).upd zo,fun b hb hne=>by rw [zj zo,hx2 b zo,hx1 b hne,zj zo],n1,n2',ln,r-K,rfl,hq.old hf trivial zo,zo,zo,hf.mono zo,hln⟩;exact z9 (W:=[]) (fun b hb=>absurd hb List.not_mem_nil) (z9 hw1 (fun b hb=>absurd hb List.not_mem_nil))
end
section
variable {len:Nat}
def xU (K:Int)(s:List UInt8):Prop:=∃x:Int,-K≤x∧x≤K∧s=ratT (x:Rat)
theorem zk3 (k:Nat){L:List Int}(hsp:∀ad,a=some ad→ad.spot=none)(hs:Sl h n 1 (.slice a len cap) (i64s L)):CF (cal (k+1)) 6 [.slice a len cap] h n fun v h' n' w=>w=[]∧n'=n+1∧Ext n h h'∧v=.pointer (some ⟨3*n+2,0,none⟩)∧Tp h' ⟨n+1,3*n+2,a,min len 400,cap,L.take 400⟩:=by
 have hL:L.length=len:=by
  obtain ⟨a',len',cap',e,hl⟩:=hs.len;injection e with e1 e2 e3
  simp [i64s] at hl;omega
 refine zk (fn:=Tryz.f6) R4 ?_;have fin:∀t:TF,t 2=.pointer (some ⟨3*n+2,0,none⟩)→∀e,RetH Tryz.f6 (fun v h' n' w=>w=[]∧n'=n+1∧Ext n h h'∧v=.pointer (some ⟨3*n+2,0,none⟩)∧Tp h' ⟨n+1,3*n+2,a,min len 400,cap,L.take 400⟩) .ret ⟨t,upd h (3*n+2) (some (.row [.slice a (min len 400) cap,.int .i64 0] e)),n+1,[]⟩:=fun t ht e=>by
  refine retH _ ⟨rfl,(zi rfl),?_⟩ ⟨rfl,rfl,Ext.upd zo,ht,by show 3*n+2<3*(n+1);omega,by show (L.take 400).length=min len 400;simp;omega,by show min len 400≤400;omega,fun x hx=>?_,?_,0,e,ze _ _ _,Nat.zero_le _⟩
  ·show ur [t 2]=false;rw [ht];rfl
  ·have hx:a=some x:=hx;subst hx;have:x.block<3*n:=hs.below;show x.block≠3*n+2;omega
  show Sl _ (n+1) 1 (.slice a (min len 400) cap) (i64s (L.take 400));have:=hs.take (min len 400) zo;rw [show (i64s L).take (min len 400*1)=i64s (L.take 400) from by simp [i64s,List.map_take];omega] at this;exact this.ext (Ext.upd zo) zs
 refine zN ?_;refine sh ?_;repeat refine zR ?_
 have hmin:(if (400:Int)<(len:Int) then 400 else (len:Int))=((min len 400:Nat):Int):=by
  split<;>omega
 have hcap:=hs.cap;rcases (show a=none∨∃b off,a=some ⟨b,off,none⟩ from by
  cases a with
  |none=>exact .inl rfl
  |some ad=>obtain ⟨b,off,sp⟩:=ad;obtain rfl:sp=none:=hsp _ rfl;exact .inr ⟨b,off,rfl⟩) with rfl|⟨b,off,rfl⟩
 ·refine jY (min len 400) rfl rfl rfl rfl rfl rfl rfl rfl hmin zo ?_;refine zA (v:=.agg #[.slice none (min len 400) cap,.int .i64 0]) R5 ?_;refine xy (cs:=[.slice none (min len 400) cap,.int .i64 0]) R5 ?_;refine sh ?_;exact fin _ rfl _
 refine u7 (min len 400) R8 hmin zo ?_;refine zA (v:=.agg #[.slice (some ⟨b,off,none⟩) (min len 400) cap,.int .i64 0]) R5 ?_;refine xy (cs:=[.slice (some ⟨b,off,none⟩) (min len 400) cap,.int .i64 0]) R5 ?_;refine sh ?_;exact fin _ rfl _
structure TLeft (T:TapeI)(h:HF)(n:Nat)(h':HF)(n':Nat)(w:List Nat):Prop where
 w:∀b∈w,b=T.bt
 le:n≤n'
 tp:Tp h' T
 ext:ExtT n T.bt h h'
theorem kx (k:Nat){T:TapeI}(hN:N≤1000)(ht:Tp h T)(hn:T.m≤n):CF (cal (k+5)) 40 [.pointer (some ⟨T.bt,0,none⟩),.int .i64 (N:Int)] h n fun v h' n' w=>TLeft T h n h' n' w∧∃S,S.length=N∧(∀s∈S,xU 2 s)∧Gro h' n n' 9 1 v N (strs S):=by
 have hbt:=ht.bt;refine zk (fn:=Tryz.f40) R4 ?_;refine zN ?_;refine sh ?_;refine sh ?_;refine sh ?_;refine zQ (α:=Nat×Value×List (List UInt8)) (fun z=>[(0,.pointer (some ⟨T.bt,0,none⟩)),(1,.int .i64 (N:Int)),(5,z.2.1),(6,.int .i64 (z.1:Int))])
  (fun z h' n' w=>TLeft T h n h' n' w∧z.1≤N∧z.2.2.length=z.1∧(∀s∈z.2.2,xU 2 s)∧Gro h' n n' 9 1 z.2.1 z.1 (strs z.2.2)) (fun z=>N-z.1)
  (0,.slice none 0 0,[]) ⟨rfl,rfl,rfl,rfl,trivial⟩ ⟨⟨fun b hb=>absurd hb List.not_mem_nil,Nat.le_refl _,ht,ExtT.refl _ _ _⟩,Nat.zero_le _,rfl,fun s hs=>absurd hs List.not_mem_nil,.nil⟩ (by show N-0<LL;unfold LL;omega) ?_
 rintro ⟨j,v5,S⟩ t h1 n1 w1 ⟨⟨hw1,hn1,ht1,hx1⟩,hj,hS,hsm,hg⟩;simp only at hj hS hsm hg;obtain ⟨a5,rfl,_⟩:=hg.shape;refine zN ?_;by_cases hjN:j=N
 ·refine sh ?_;refine Za ?_;refine sh ?_;refine retH _ ⟨rfl,(zi rfl),rfl⟩ ⟨⟨hw1,hn1,ht1,hx1⟩,S,zo,hsm,?_⟩;subst hjN;exact hg
 refine sh ?_;refine Zb ?_;repeat refine zR ?_
 refine zu _ R5 (ph k (K:=2) zo ht1 zo) ?_;rintro _ h2 n2 w2 ⟨hw2,hn2,ht2,hx2,m1,m2,ln,x,rfl,hq,hx0,hx1',hf,hln⟩;refine z8 _ R5 (pB k hq (by simp;omega)) ?_;rintro _ rfl;refine wn (cs:=strs [ratT (x:Rat)]) R5 ?_;refine kL (m:=1) R8 zd ((hg.extT hx2 zo hn2).ext (Ext.upd zo) zs) (yy (ze _ _ _) R2) (Nat.le_refl _) zo rfl rfl (by show n≤n∧_;omega) ?_;intro v3 h3 hg3 hx3 hk3;obtain ⟨a3,rfl,_⟩:=hg3.shape;refine sh ?_;refine sh ?_;refine goOn (j+1,.slice a3 (j+1) (j+1),S++[ratT (x:Rat)]) (by show N-(j+1)<N-j;omega) ⟨rfl,rfl,rfl,by show Value.int .i64 _=Value.int .i64 _;congr 1,trivial⟩ ⟨⟨?_,by show n≤n2+1+1;omega,(ht2.upd zo).ext hx3 zo,fun b hb hne=>?_⟩,by show j+1≤N;omega,by show (S++[_]).length=j+1;simp;omega,?_,?_⟩
 ·exact z9 hw2 hw1
 ·exact (hx3 b hb).trans ((zj zo).trans ((hx2 b zo hne).trans (hx1 b hb hne)))
 ·intro s hs;rcases List.mem_append.1 hs with hs|hs
  ·exact hsm s hs
  simp at hs;subst hs;exact ⟨x,hx0,hx1',rfl⟩
 show Gro _ _ _ _ _ _ (j+1) (strs (S++[_]));rw [jX];exact hg3
end
section
structure Ent where
 b:Int
 r:Int
 c:Int
 v:List UInt8
def entC (e:Ent):List Value:=[.int .i64 e.b,.int .i64 e.r,.int .i64 e.c,.string ⟨⟨e.v⟩⟩]
def ents (l:List Ent):List Value:=l.flatMap entC
theorem se (a b:List Ent):ents (a++b)=ents a++ents b:=by simp [ents]
theorem yQ (a:List Ent):(ents a).length=a.length*4:=by
 induction a with
 |nil=>rfl
 |cons e a ih=>simp only [ents,List.flatMap_cons,List.length_append,List.length_cons] at*;rw [ih];simp [entC];omega
def ltP (e:Ent)(b r c:Int):Prop:=e.b<b∨(e.b=b∧(e.r<r∨(e.r=r∧e.c<c)))
def ltE (e f:Ent):Prop:=ltP e f.b f.r f.c
structure EntOk (B:List Int)(e:Ent):Prop where
 b:0≤e.b∧e.b<B.length
 rc:0≤e.r∧e.r≤e.c
 c:∀d,B[e.b.toNat]?=some d→e.c<d
 v:∃x:Int,-2≤x∧x≤2∧x≠0∧e.v=ratT (x:Rat)
structure EOk (B:List Int)(E:List Ent)(b r c:Int):Prop where
 ok:∀e∈E,EntOk B e
 asc:E.Pairwise ltE
 lt:∀e∈E,ltP e b r c
theorem fC {e:Ent}{b r c b' r' c':Int}(h:ltP e b r c)(h':b<b'∨(b=b'∧(r<r'∨(r=r'∧c≤c')))):ltP e b' r' c':=by
 unfold ltP at*
 omega
theorem EOk.mono {B:List Int}{E:List Ent}{b r c b' r' c':Int}(h:EOk B E b r c)(h':b<b'∨(b=b'∧(r<r'∨(r=r'∧c≤c')))):EOk B E b' r' c':=⟨h.ok,h.asc,fun e he=>fC (h.lt e he) h'⟩
theorem EOk.snoc {B:List Int}{E:List Ent}{e:Ent}(h:EOk B E e.b e.r e.c)(he:EntOk B e):EOk B (E++[e]) e.b e.r (e.c+1):=by
 refine ⟨fun x hx=>?_,?_,fun x hx=>?_⟩
 ·rcases List.mem_append.1 hx with hx|hx
  ·exact h.ok x hx
  simp at hx;subst hx;exact he
 ·rw [List.pairwise_append];refine ⟨h.asc,by simp,fun x hx y hy=>?_⟩;simp at hy;subst hy;exact h.lt x hx
 rcases List.mem_append.1 hx with hx|hx
 ·exact fC (h.lt x hx) (.inr ⟨rfl,.inr ⟨rfl,zo⟩⟩)
 simp at hx;subst hx;exact .inr ⟨rfl,.inr ⟨rfl,zo⟩⟩
theorem TLeft.refl {T:TapeI}(ht:Tp h T):TLeft T h n h n []:=⟨fun b hb=>absurd hb List.not_mem_nil,Nat.le_refl _,ht,ExtT.refl _ _ _⟩
theorem mo (k:Nat){T:TapeI}{B:List Int}(hB:B.length≤4∧∀d∈B,0≤d∧d≤8)(ht:Tp h T)(hn:T.m≤n)(hs:Sl h n 1 (.slice a B.length cap) (i64s B))(hbt:∀x,a=some x→x.block≠T.bt):
  CF (cal (k+5)) 39 [.pointer (some ⟨T.bt,0,none⟩),.slice a B.length cap] h n fun v h' n' w=>TLeft T h n h' n' w∧∃E,EOk B E B.length 0 0∧E.length≤256∧Gro h' n n' 76 4 v E.length (ents E):=by
 have hbt0:=ht.bt;refine zk (fn:=Tryz.f39) R4 ?_;refine zN ?_;refine sh ?_;refine sh ?_;refine sh ?_;refine zQ (α:=Nat×Value×List Ent) (fun z=>[(0,.pointer (some ⟨T.bt,0,none⟩)),(5,z.2.1),(11,.slice a B.length cap),(12,.int .i64 (B.length:Int)),(13,.int .i64 (z.1:Int))])
  (fun z h' n' w=>TLeft T h n h' n' w∧z.1≤B.length∧EOk B z.2.2 z.1 0 0∧z.2.2.length≤64*z.1∧Gro h' n n' 76 4 z.2.1 z.2.2.length (ents z.2.2)) (fun z=>B.length-z.1)
  (0,.slice none 0 0,[]) ⟨rfl,rfl,rfl,rfl,rfl,trivial⟩ ⟨TLeft.refl ht,Nat.zero_le _,⟨fun e he=>absurd he List.not_mem_nil,List.Pairwise.nil,fun e he=>absurd he List.not_mem_nil⟩,Nat.le_refl _,.nil⟩ (by show B.length-0<LL;unfold LL;omega) ?_
 rintro ⟨j,v5,E⟩ t h1 n1 w1 ⟨hT1,hj,hE,hEl,hg⟩;simp only at hj hE hEl hg;obtain ⟨a5,rfl,_⟩:=hg.shape;refine zN ?_;by_cases hjB:j=B.length
 ·refine sh ?_;refine Za ?_;refine sh ?_;exact retH _ ⟨rfl,(zi rfl),rfl⟩ ⟨hT1,E,hjB▸hE,zo,hg⟩
 obtain ⟨d,hd⟩:∃d,B[j]?=some d:=⟨B[j]'zo,List.getElem?_eq_getElem zo⟩;have hd8:=hB.2 d (List.mem_of_getElem? hd);obtain ⟨bb,off,x,cs,rfl,hb3,hx,hc,hcap,hle,he⟩:=hs.inv zo;have hcell:cs[off+j]?=some (.int .i64 d):=yX he (by rw [i64s,List.getElem?_map,hd];rfl);have hx1:h1 bb=some x:=by rw [hT1.ext bb hb3 (hbt _ rfl)];exact hx
 obtain ⟨D,rfl⟩:∃D:Nat,d=(D:Int):=⟨d.toNat,zo⟩;refine sh ?_;refine Zb ?_;repeat refine zR ?_
 refine yR R8 zo ?_;refine zg R6 hx1 (v:=.int .i64 (D:Int)) ⟨hc,(by rw [←hcell];congr 1;omega)⟩ ?_;refine sh ?_;refine sh ?_;refine zQ (α:=Nat×Value×List Ent) (fun z=>[(0,.pointer (some ⟨T.bt,0,none⟩)),(5,z.2.1),(6,.int .i64 (j:Int)),(7,.int .i64 (D:Int)),(8,.int .i64 (z.1:Int)),(11,.slice (some ⟨bb,off,none⟩) B.length cap),(12,.int .i64 (B.length:Int)),(13,.int .i64 (j:Int))])
  (fun z h' n' w=>TLeft T h n h' n' w∧z.1≤D∧EOk B z.2.2 j z.1 0∧z.2.2.length≤64*j+8*z.1∧Gro h' n n' 76 4 z.2.1 z.2.2.length (ents z.2.2)) (fun z=>D-z.1)
  (0,.slice a5 E.length E.length,E) ⟨rfl,rfl,rfl,rfl,rfl,rfl,rfl,rfl,trivial⟩ ⟨hT1,Nat.zero_le _,hE,by show E.length≤64*j+0;omega,hg⟩ (by show D-0<LL;unfold LL;omega) ?_
 rintro ⟨r,v5,E⟩ t h1 n1 w1 ⟨hT1,hr,hE,hEl,hg⟩;simp only at hr hE hEl hg;obtain ⟨a5,rfl,_⟩:=hg.shape;refine zN ?_;by_cases hrD:r=D
 ·refine sh ?_;refine Za ?_;refine sh ?_;exact goOn (j+1,.slice a5 E.length E.length,E) (by show B.length-(j+1)<B.length-j;omega) ⟨rfl,rfl,rfl,rfl,by show Value.int .i64 _=Value.int .i64 _;congr 1,trivial⟩ ⟨hT1,by show j+1≤_;omega,hE.mono (.inl (by show (j:Int)<((j+1:Nat):Int);omega)),by show E.length≤64*(j+1);omega,hg⟩
 refine sh ?_;refine Zb ?_;refine sh ?_;refine zQ (α:=Nat×Value×List Ent) (fun z=>[(0,.pointer (some ⟨T.bt,0,none⟩)),(5,z.2.1),(6,.int .i64 (j:Int)),(7,.int .i64 (D:Int)),(8,.int .i64 (r:Int)),(9,.int .i64 (z.1:Int)),(11,.slice (some ⟨bb,off,none⟩) B.length cap),(12,.int .i64 (B.length:Int)),(13,.int .i64 (j:Int))])
  (fun z h' n' w=>TLeft T h n h' n' w∧r≤z.1∧z.1≤D∧EOk B z.2.2 j r z.1∧z.2.2.length≤64*j+8*r+(z.1-r)∧Gro h' n n' 76 4 z.2.1 z.2.2.length (ents z.2.2)) (fun z=>D-z.1)
  (r,.slice a5 E.length E.length,E) ⟨rfl,rfl,rfl,rfl,rfl,rfl,rfl,rfl,rfl,trivial⟩ ⟨hT1,Nat.le_refl _,hr,hE.mono (.inr ⟨rfl,.inr ⟨rfl,zo⟩⟩),by show E.length≤64*j+8*r+(r-r);omega,hg⟩ (by show D-r<LL;unfold LL;omega) ?_
 rintro ⟨c,v5,E⟩ t h1 n1 w1 ⟨hT1,hrc,hc8,hE,hEl,hg⟩;simp only at hrc hc8 hE hEl hg;obtain ⟨a5,rfl,_⟩:=hg.shape;refine zN ?_;by_cases hcD:c=D
 ·refine sh ?_;refine Za ?_;refine sh ?_;exact goOn (r+1,.slice a5 E.length E.length,E) (by show D-(r+1)<D-r;omega) ⟨rfl,rfl,rfl,rfl,by show Value.int .i64 _=Value.int .i64 _;congr 1,rfl,rfl,rfl,trivial⟩ ⟨hT1,by show r+1≤_;omega,hE.mono (.inr ⟨rfl,.inl (by show (r:Int)<((r+1:Nat):Int);omega)⟩),by show E.length≤64*j+8*(r+1);omega,hg⟩
 have hcDD:c<D:=zo;refine sh ?_;rw [zc rfl];simp only [yL,xN,zO,xD];refine yo (α:=Value×List Ent) (fun z=>[(0,.pointer (some ⟨T.bt,0,none⟩)),(5,z.1),(6,.int .i64 (j:Int)),(7,.int .i64 (D:Int)),(8,.int .i64 (r:Int)),(9,.int .i64 (c:Int)),(11,.slice (some ⟨bb,off,none⟩) B.length cap),(12,.int .i64 (B.length:Int)),(13,.int .i64 (j:Int))])
  (fun z h' n' w=>TLeft T h n h' n' w∧EOk B z.2 j r (c+1:Nat)∧z.2.length≤E.length+1∧Gro h' n n' 76 4 z.1 z.2.length (ents z.2)) ?_ ?_
 ·refine Ze ?_;refine zu _ R5 (ph k (K:=2) zo hT1.tp (by have:=hT1.le;omega)) ?_;rintro _ h2 n2 w2 ⟨hw2,hn2,ht2,hx2,m1,m2,ln,y,rfl,hq,hy0,hy1,hf,hln⟩;have hn1:=hT1.le;refine zT R5 ?_;have h1s:ones [m1,m2,.bool false,.slice none 0 0]=true:=by
   rw [hq.num.neg];show ones (m2::_)=true;rw [hq.num.sl.ones];rfl
  refine zv [m1,m2,.bool false,.slice none 0 0] R7 h1s (ze _ _ _) rfl (by show 3*n≤_;omega) ?_;rw [yH];refine zN ?_;generalize hh:upd h2 (3*n2+2) _=h3;have hx3:Ext n2 h2 h3:=by rw [←hh];exact Ext.upd zo
  have hrow3:∃e,h3 (3*n2+2)=some (.row [m1,m2,.bool false,.slice none 0 0] e):=⟨_,by rw [←hh,ze]⟩;obtain ⟨e3,hrow3⟩:=hrow3;have hq3:=hq.ext hx3 (Nat.le_succ n2);have ht3:=ht2.ext hx3 zo;have hg3:=(hg.extT hx2 zo hn2).ext hx3 (Nat.le_succ n2);have hbx3:∀b,b<3*n→b≠T.bt→h3 b=h b:=fun b hb hne=>(hx3 b zo).trans ((hx2 b zo hne).trans (hT1.ext b hb hne));have hw3:∀b∈addW (ctx (k+4) n (Tryz.f39).ntmps).n0 w2 w1,b=T.bt:=z9 hw2 hT1.w;refine zI (v:=.agg #[m1,m2,.bool false,.slice none 0 0]) R5 (zB R2 hrow3 rfl zb rfl) ?_;refine z8 _ R5 (mU (k+2) hq3) ?_;rintro _ rfl;rw [Rat.num_intCast];by_cases hy:y=0
  ·subst hy;refine sh ?_;refine Za ?_;exact zK (.slice a5 E.length E.length,E) ⟨rfl,rfl,rfl,rfl,rfl,rfl,rfl,rfl,rfl,trivial⟩ ⟨⟨hw3,by show n≤n2+1;omega,ht3,hbx3⟩,hE.mono (.inr ⟨rfl,.inr ⟨rfl,zo⟩⟩),by show E.length≤E.length+1;omega,hg3⟩
  have hsg:¬y.sign=0:=fun e=>hy (Int.sign_eq_zero_iff_zero.1 e);repeat refine zR ?_
  refine zu _ R5 (um (k+3) (m:=2) zo ht3 zo) ?_;rintro _ h4 _ w4 ⟨hw4,rfl,ht4,hx4,rr,rfl,hr0,hr1⟩;have hg4:Gro h4 n (n2+1) 76 4 (.slice a5 E.length E.length) E.length (ents E):=hg3.extT (fun b hb hne=>hx4 b hne) zo (Nat.le_refl _);have hrow4:h4 (3*n2+2)=some (.row [m1,m2,.bool false,.slice none 0 0] e3):=by rw [hx4 _ zo];exact hrow3
  have hw4':=z9 (n0:=(ctx (k+4) n (Tryz.f39).ntmps).n0) hw4 hw3;by_cases hrr:rr=0
  ·refine sh ?_;refine Zb ?_;repeat refine zR ?_
   refine zI (v:=.agg #[m1,m2,.bool false,.slice none 0 0]) R5 (zB R2 hrow4 rfl zb rfl) ?_;have hq4:RatR h4 (n2+1) m1 m2 (.bool false) (.slice none 0 0) ((y:Int):Rat) ln []:=by
    refine ⟨⟨hq3.num.neg,hq3.num.sl.keep (fun a l cc e=>hx4 _ ?_) (Nat.le_refl _),hq3.num.norm,hq3.num.val⟩,rfl,.nil (.inl rfl),Norm.nil,hq3.val⟩;subst e;have hf:3*n1≤a.block:=hf;omega
   refine z8 _ R5 (pB k hq4 (by simp;omega)) ?_;rintro _ rfl;refine zA (v:=.agg #[.int .i64 (j:Int),.int .i64 (r:Int),.int .i64 (c:Int),.string ⟨⟨ratT ((y:Int):Rat)⟩⟩]) R5 ?_;refine wn (cs:=ents [⟨j,r,c,ratT ((y:Int):Rat)⟩]) R5 ?_;refine kL (m:=1) R8 zd (hg4.ext (Ext.upd zo) zs) (yy (ze _ _ _) R2) (Nat.le_refl _) zo rfl rfl (by show n≤n∧_;omega) ?_;intro v6 h6 hg6 hx6 hk6;obtain ⟨a6,rfl,_⟩:=hg6.shape;refine sh ?_;refine zK (.slice a6 (E.length+1) (E.length+1),E++[⟨j,r,c,ratT ((y:Int):Rat)⟩]) ⟨rfl,rfl,rfl,rfl,rfl,rfl,rfl,rfl,rfl,trivial⟩ ⟨⟨hw4',by show n≤n2+1+1+1;omega,(ht4.upd zo).ext hx6 zo,fun b hb hne=>?_⟩,?_,by show (E++[_]).length≤E.length+1;simp,?_⟩
   ·exact (hx6 b hb).trans ((zj zo).trans ((hx4 b hne).trans (hbx3 b hb hne)))
   ·refine EOk.snoc (e:=⟨j,r,c,ratT ((y:Int):Rat)⟩) hE ⟨by simp only;omega,by simp only;omega,fun d' hd'=>?_,y,hy0,hy1,hy,rfl⟩;simp only [Int.toNat_natCast] at hd' ⊢;rw [hd] at hd';injection hd' with hd'
    omega
   show Gro _ _ _ _ _ _ (E++[_]).length (ents (E++[_]));rw [se,List.length_append];exact hg6
  refine sh ?_;refine Za ?_;exact zK (.slice a5 E.length E.length,E) ⟨rfl,rfl,rfl,rfl,rfl,rfl,rfl,rfl,rfl,trivial⟩ ⟨⟨hw4',by show n≤n2+1;omega,ht4,fun b hb hne=>(hx4 b hne).trans (hbx3 b hb hne)⟩,hE.mono (.inr ⟨rfl,.inr ⟨rfl,zo⟩⟩),by show E.length≤E.length+1;omega,hg4⟩
 rintro ⟨v7,E7⟩ t h7 n7 w7 ⟨hT7,hE7,hEl7,hg7⟩;simp only at hE7 hEl7 hg7;obtain ⟨a7,rfl,_⟩:=hg7.shape;refine zN ?_;refine sh ?_;exact goOn (c+1,.slice a7 E7.length E7.length,E7) (by show D-(c+1)<D-c;omega) ⟨rfl,rfl,rfl,rfl,rfl,by show Value.int .i64 _=Value.int .i64 _;congr 1,rfl,rfl,rfl,trivial⟩ ⟨hT7,by show r≤c+1;omega,by show c+1≤D;omega,hE7,by show E7.length≤64*j+8*r+(c+1-r);omega,hg7⟩
end
end Go.Proofs.YtfajmfoofmienaaGreatDoor
