/- Chapter 4. -/
import Derived.Test.YtnjngdcbkkonnaaGreatDoorA4
set_option linter.unusedVariables false
set_option linter.unusedSimpArgs false
set_option maxRecDepth 100000
set_option maxHeartbeats 4000000
noncomputable section
namespace Go.Z
open Go Go.Abs
def f132 (a0:qr)(a1:qh)(c0_0:Int)(c0_1:Int):Option ((qh×Int)):=
 cond (decide (a0.m0=0)&&decide (a0.m1=0))
  (some (⟨0,0⟩,17))
  (j5 (f175 a1) fun v2=>
  j5 (f175 (⟨a0.m0,a0.m1⟩)) fun v4=>
  j5 (f174 v2 v4) fun v6=>
  some (v6,0))
theorem j4k {a0:qr}{a1:qh}{c0_0:Int}{c0_1:Int}{r}(h:f132 a0 a1 c0_0 c0_1=some r):ye pr (X pr) 132 [.agg [Iv a0.m0,Iv a0.m1,Iv a0.m2,Iv a0.m3,Iv a0.m4,Iv a0.m5,Iv a0.m6,Iv a0.m7],.agg [Iv a1.num,Iv a1.den]] [.cells [(Iv c0_0,false),(Iv c0_1,false)]]=some (.tup [.agg [Iv r.1.num,Iv r.1.den],Iv r.2],false,[.cells [(Iv c0_0,false),(Iv c0_1,false)],.cells [(Iv r.1.num,false),(Iv r.1.den,false)]]):=by
 unfold f132 at h
 rcases j4 h with⟨h1,h⟩|⟨h1,h⟩
 ·have hr:(⟨0,0⟩,17)=r:=Option.some.inj h
  subst hr
  rw[kr (show pr.fns 132=some c132 from rfl) (by simp)]
  simp only[go_sem,seval,c132,h1]<;>rfl
 obtain⟨v2,h3,h⟩:=j0 h
 have wh3:=jl8 h3
 obtain⟨v4,h5,h⟩:=j0 h
 have wh5:=jl8 h5
 obtain⟨v6,h7,h⟩:=j0 h
 have hr:(v6,0)=r:=Option.some.inj h
 subst hr
 rw[kr (show pr.fns 132=some c132 from rfl) (by simp)]
 simp only[go_sem,seval,c132,h1,wh3,wh5,j2l h7]<;>rfl
def f131 (a0:TE)(a1:Int):Option (qh×Int):=
 j5 (f158 a0) fun v1=>
 j5 (f172 a1) fun v3=>
 j5 (f171 (some [v1,v3])) fun v5=>
 cond (decide (v5=0))
  (j5 (f173 a0 a1) fun v8=>
  j5 (f132 v8.1 v8.2 0 0) fun v10=>
  some (v10.1,v10.2))
  (some (⟨0,0⟩,v5))
theorem j1i {a0:TE}{a1:Int}{r}(h:f131 a0 a1=some r):zb pr (X pr) 131 [sl 3 vel a0,Iv a1,.fn (.func 132) [] []]=some (.tup [.agg [Iv r.1.num,Iv r.1.den],Iv r.2],false):=by
 unfold f131 at h
 obtain⟨v1,h2,h⟩:=j0 h
 obtain⟨v3,h4,h⟩:=j0 h
 obtain⟨v5,h6,h⟩:=j0 h
 have wh6:zb pr (X pr) 171 [.list false 1 [Iv v1,Iv v3]]=some (Iv v5,false):=qsh h6
 rcases j4 h with⟨h7,h⟩|⟨h7,h⟩
 ·obtain⟨v8,h9,h⟩:=j0 h
  obtain⟨v10,h11,h⟩:=j0 h
  have wh11:ye pr (X pr) 132 [.agg [Iv v8.1.m0,Iv v8.1.m1,Iv v8.1.m2,Iv v8.1.m3,Iv v8.1.m4,Iv v8.1.m5,Iv v8.1.m6,Iv v8.1.m7],.agg [Iv v8.2.num,Iv v8.2.den]] [.cells [(Iv 0,false),(Iv 0,false)]]=some (.tup [.agg [Iv v10.1.num,Iv v10.1.den],Iv v10.2],false,[.cells [(Iv 0,false),(Iv 0,false)],.cells [(Iv v10.1.num,false),(Iv v10.1.den,false)]]):=j4k h11
  obtain rfl:=oi h
  refine zk c131 ?_
  simp only[go_sem,seval,c131,q9p h2,jnq h4,wh6,h7,j2d h9,wh11]
  exact⟨_,rfl⟩
 obtain rfl:=oi h
 refine zk c131 ?_
 simp only[go_sem,seval,c131,q9p h2,jnq h4,wh6,h7]
 exact⟨_,rfl⟩
def f57 (a0:TE)(a1:Int):Option (qh×Int):=
 j5 (f131 a0 a1) fun v1=>
 some (v1.1,v1.2)
theorem W57 {a0:TE}{a1:Int}{r}(h:f57 a0 a1=some r):zb pr (X pr) 57 [sl 3 vel a0,Iv a1]=some (.tup [.agg [Iv r.1.num,Iv r.1.den],Iv r.2],false):=by
 unfold f57 at h
 obtain⟨v1,h2,h⟩:=j0 h
 have wh2:zb pr (X pr) 131 [sl 3 vel a0,Iv a1,.fn (.func 132) [] []]=some (.tup [.agg [Iv v1.1.num,Iv v1.1.den],Iv v1.2],false):=j1i h2
 obtain rfl:=oi h
 refine zk c57 ?_
 simp only[go_sem,seval,c57,wh2]
 exact⟨_,rfl⟩
def f165 (a0:Int)(a1:Int):Option (Int×Int):=
 j5 (qtc .u64 a0 32) fun v1=>
 j5 (qtc .u64 a1 32) fun v3=>
 j5 (qtc .u64 (j9 .u64 ((qqw .and .u64 a0 4294967295)*(qqw .and .u64 a1 4294967295))) 32) fun v5=>
 j5 (qtc .u64 (j9 .u64 ((j9 .u64 (v1*(qqw .and .u64 a1 4294967295)))+v5)) 32) fun v7=>
 j5 (qtc .u64 (j9 .u64 ((qqw .and .u64 (j9 .u64 ((j9 .u64 (v1*(qqw .and .u64 a1 4294967295)))+v5)) 4294967295)+(j9 .u64 ((qqw .and .u64 a0 4294967295)*v3)))) 32) fun v9=>
 some (j9 .u64 ((j9 .u64 ((j9 .u64 (v1*v3))+v7))+v9),j9 .u64 (a0*a1))
theorem jnd {a0:Int}{a1:Int}{r}(h:f165 a0 a1=some r):zb pr (X pr) 165 [.int .u64 a0,.int .u64 a1]=some (.tup [.int .u64 r.1,.int .u64 r.2],false):=by
 unfold f165 at h
 obtain⟨v1,h2,h⟩:=j0 h
 obtain⟨v3,h4,h⟩:=j0 h
 obtain⟨v5,h6,h⟩:=j0 h
 obtain⟨v7,h8,h⟩:=j0 h
 obtain⟨v9,h10,h⟩:=j0 h
 obtain rfl:=oi h
 refine zk c165 ?_
 simp only[go_sem,seval,c165,qob h2,qob h4,qob h6,qob h8,qob h10]
 exact⟨_,rfl⟩
def f127 (a0:qh)(a1:qh):Option Bool:=
 j5 (f165 (j9 .u64 a0.num) (j9 .u64 a1.den)) fun v1=>
 j5 (f165 (j9 .u64 a1.num) (j9 .u64 a0.den)) fun v3=>
 cond (decide (v3.1<v1.1))
  (some true)
  (cond (decide (v1.1=v3.1))
   (some (decide (v3.2<v1.2)))
   (some false))
theorem jei {a0:qh}{a1:qh}{r}(h:f127 a0 a1=some r):zb pr (X pr) 127 [.agg [Iv a0.num,Iv a0.den],.agg [Iv a1.num,Iv a1.den]]=some (.bool r,false):=by
 unfold f127 at h
 obtain⟨v1,h2,h⟩:=j0 h
 have wh2:=jnd h2
 obtain⟨v3,h4,h⟩:=j0 h
 have wh4:=jnd h4
 rcases j4 h with⟨h5,h⟩|⟨h5,h⟩
 ·obtain rfl:=oi h
  refine zk c127 ?_
  simp only[go_sem,seval,c127,wh2,wh4,h5]
  exact⟨_,rfl⟩
 rcases j4 h with⟨h6,h⟩|⟨h6,h⟩
 ·obtain rfl:=oi h
  refine zk c127 ?_
  simp only[go_sem,seval,c127,wh2,wh4,h5,h6]
  exact⟨_,rfl⟩
 obtain rfl:=oi h
 refine zk c127 ?_
 simp only[go_sem,seval,c127,wh2,wh4,h5,h6]
 exact⟨_,rfl⟩
def q42 (a0:TE)(a1:Int)(s0:Int×Int×Int×Int×Int×Int×Int×Int×Int):Option ((Int×Int×Int×Int×Int×Int×Int×Int×Int)⊕((Int×Int×Int×Int×Int×Int×Int×Int×Int))):=
 cond (decide (s0.1<((a0.getD []).length:Int)))
  (j5 (yo (a0.getD []) s0.1) fun v24=>
  j5 (qzu v24 a1) fun v26=>
  j5 (q94 v24.kind v26) fun v28=>
  j5 (f169 (⟨s0.2.1,s0.2.2.1,s0.2.2.2.1,s0.2.2.2.2.1,s0.2.2.2.2.2.1,s0.2.2.2.2.2.2.1,s0.2.2.2.2.2.2.2.1,s0.2.2.2.2.2.2.2.2⟩) v28) fun v30=>
  some (.inl (j9 .i64 (s0.1+1),v30.m0,v30.m1,v30.m2,v30.m3,v30.m4,v30.m5,v30.m6,v30.m7)))
  (some (.inr (s0.1,s0.2.1,s0.2.2.1,s0.2.2.2.1,s0.2.2.2.2.1,s0.2.2.2.2.2.1,s0.2.2.2.2.2.2.1,s0.2.2.2.2.2.2.2.1,s0.2.2.2.2.2.2.2.2)))
def f129 (a0:TE)(a1:Int):Option qr:=
 j5 (f166) fun v1=>
 j5 (qse) fun v3=>
 j5 (itO (q42 a0 a1) (0,v1.num,v1.den,v3.num,v3.den,v3.num,v3.den,v1.num,v1.den)) fun d32=>
 some (⟨d32.2.1,d32.2.2.1,d32.2.2.2.1,d32.2.2.2.2.1,d32.2.2.2.2.2.1,d32.2.2.2.2.2.2.1,d32.2.2.2.2.2.2.2.1,d32.2.2.2.2.2.2.2.2⟩)
def q3u (a0:TE)(a1:Int)(s0:Int×Int×Int):Option ((Int×Int×Int)⊕((Int×Int×Int))):=
 cond (decide (s0.1<((a0.getD []).length:Int)))
  (j5 (yo (a0.getD []) s0.1) fun v24=>
  j5 (f55 v24.kind) fun v26=>
  cond v26
   (j5 (qzu v24 a1) fun v29=>
   j5 (f63 (⟨s0.2.1,s0.2.2⟩) v29) fun v31=>
   some (.inl (j9 .i64 (s0.1+1),v31.num,v31.den)))
   (some (.inl (j9 .i64 (s0.1+1),s0.2.1,s0.2.2))))
  (some (.inr (s0.1,s0.2.1,s0.2.2)))
def jfb (a0:TE)(a1:Int):Option qh:=
 j5 (f166) fun v1=>
 j5 (itO (q3u a0 a1) (0,v1.num,v1.den)) fun d33=>
 some (⟨d33.2.1,d33.2.2⟩)
def F58 (rec:qh→qh→Option Bool)(a0:qh)(a1:qh):Option Bool:=
 j5 (qfc .i64 a0.num a0.den) fun v1=>
 j5 (qfc .i64 a1.num a1.den) fun v3=>
 cond (decide (v1=v3))
  (j5 (qh8 a0.num a0.den) fun v6=>
  j5 (qh8 a1.num a1.den) fun v8=>
  cond (decide (v6=0))
   (some (!decide (v8=0)))
   (cond (decide (v8=0))
    (some false)
    (j5 (rec (⟨a1.den,v8⟩) (⟨a0.den,v6⟩)) fun v12=>
    some v12)))
  (some (decide (v1<v3)))
def f58:Nat→qh→qh→Option Bool
 |0=>fun _ _=>none
 |n+1=>F58 (f58 n)
def jlq (a0:qh)(a1:qh):Option (jb×Int):=
 j5 (qse) fun v1=>
 cond (decide (a1.num=v1.num)&&decide (a1.den=v1.den))
  (some (⟨0,0,0,0⟩,17))
  (some (⟨a0.num,a0.den,a1.num,a1.den⟩,0))
def joh (a0:TE)(a1:Int):Option (jb×Int):=
 j5 (jfb a0 a1) fun v1=>
 j5 (f129 a0 a1) fun v3=>
 j5 (jlq v1 (⟨v3.m0,v3.m1⟩)) fun v5=>
 some (v5.1,v5.2)
def jgm (a0:TE)(a1:Int):Option (qh×Int):=
 j5 (joh a0 a1) fun v1=>
 cond (decide (v1.2=0))
  (j5 (q9s (⟨v1.1.a,v1.1.b⟩)) fun v4=>
  j5 (q9s (⟨v1.1.c,v1.1.d⟩)) fun v6=>
  j5 (f66 v4 v6) fun v8=>
  some (v8,0))
  (some (⟨0,0⟩,v1.2))
def f34 (a0:Int):Option Int:=
 j5 (f40 a0 1 8) fun v1=>
 some v1
theorem W34 {a0:Int}{r}(h:f34 a0=some r):zb pr (X pr) 34 [Iv a0]=some (Iv r,false):=by
 unfold f34 at h
 obtain⟨v1,h2,h⟩:=j0 h
 obtain rfl:=oi h
 refine zk c34 ?_
 simp only[go_sem,seval,c34,W40 h2]
 exact⟨_,rfl⟩
def f198 (a0:TE):Option (TE×Bool):=
 cond a0.isNone
  (some (none,false))
  (j5 (apO (some []) (a0.getD [])) fun v2=>
  some (v2,true))
theorem jnz {a0:TE}{r}(h:f198 a0=some r):zb pr (X pr) 198 [sl 3 vel a0]=some (sl 3 vel r.1,r.2):=by
 unfold f198 at h
 rcases j4 h with⟨h1,h⟩|⟨h1,h⟩
 ·obtain rfl:=oi h
  refine qdm c198 ?_
  simp only[go_sem,seval,c198,h1]
  exact⟨_,rfl⟩
 obtain⟨v2,h3,h⟩:=j0 h
 obtain rfl:=oi h
 refine qdm c198 ?_
 simp only[go_sem,seval,c198,h1,qrz h3]
 exact⟨_,rfl⟩
section
variable {H:ze}{b c:qq}{cs:List (qa×Bool)}{n:Nat}
theorem qkw:newBox H.length (H++[qq.hole]) 0 b=some (H++[b]):=by
 unfold newBox
 rw[Nat.add_zero,List.getElem?_append_right (Nat.le_refl _),Nat.sub_self]
 show some ((H++[qq.hole]).set H.length b)=_
 rw[List.set_append_right _ _ (Nat.le_refl _),Nat.sub_self]
 rfl
theorem qk2:(H++[b])[H.length]?=some b:=by
 rw[List.getElem?_append_right (Nat.le_refl _),Nat.sub_self];rfl
theorem qhw:yi (H++[qq.cells cs]) H.length=some cs:=by
 unfold yi
 rw[List.getElem?_append_right (Nat.le_refl _),Nat.sub_self]
 rfl
theorem jph {t:ze}(h:yi H n=some cs):yi (H++t) n=some cs:=by
 unfold yi at h ⊢
 have hn:n<H.length:=by
  cases hh:H[n]? with
  |none=>rw[hh]at h;cases h
  |some x=>exact(List.getElem?_eq_some_iff.1 hh).1
 rw[List.getElem?_append_left hn]
 exact h
theorem qkz:decide (H.length<(H++[b]).length)=true:=by simp
theorem jam (h:yi H n=some cs):H[n]?=some (.cells cs):=by
 unfold yi at h
 split at h
 ·next x hx=>cases h;exact hx
 ·cases h
theorem qh3:(H++[b]).set H.length c=H++[c]:=by
 rw[List.set_append_right _ _ (Nat.le_refl _),Nat.sub_self]
 rfl
end
def kq (v:ql):qq:=.cells [(.str v.kind,false),(.int .i64 v.a,false),(.int .i64 v.b,false)]
section
variable {S D:Type}
def qbh {α:Type}(g:S→α→Option (S⊕D)):List α→S→Option (S⊕D)
 | [],s=>some (.inl s)
 |v::l,s=>j5 (g s v) fun r=>match r with
  | .inl s'=>qbh g l s'
  | .inr d=>some (.inr d)
variable (y:S→Option (List ql)→Option (S⊕D))(ch:Option (List Int))(ps:Option (List qb))(c:Bool)
def vis:Nat→Option (List ql)→S→Option (S⊕D)
 |0,x,s=>j5 (f198 x) fun q=>y s q.1
 |m+1,x,s=>j5 (yo (ch.getD []) ((x.getD []).length:Int)) fun i=>j5 (yo (ps.getD []) i) fun p=>j5 (f99 p c) fun vs=>
   cond (decide ((vs.1.getD []).length≤9)) (j5 (f198 x) fun q=>cond (q.2||q.1.isNone) (qbh (fun s v=>j5 (apO q.1 [v]) fun x'=>vis m x' s) (vs.1.getD []) s) none) none
end
structure jh (S D:Type) where
 HS:S→ze
 HD:D→ze
 N:Nat
 V:Nat
 b:Nat
 ls:∀s,(HS s).length=N
 ld:∀d,(HD d).length=N
 bs:∀n s,N≤n→yl n (HS s)=true
 bd:∀n d,N≤n→yl n (HD d)=true
 ch:Option (List Int)
 ps:Option (List qb)
 c:Bool
 hV:∀s,yi (HS s) V=some [(.fn (.func 197) [] [.vptr (sl 1 zg ch),.vptr (.fn (.yield b) [] []),.vptr (sl 8 zd ps),.vptr (.bool c),.ptr V 0],false)]
section
variable {S D:Type}(F:jh S D)
def jh.hr:S ⊕ D→ze
 | .inl s=>F.HS s
 | .inr d=>F.HD d
def isL:S ⊕ D→Bool
 | .inl _=>true
 | .inr _=>false
def jh.yields (y:S→Option (List ql)→Option (S⊕D)):Prop:=∀s x (els:List ql) r,y s x=some r→qbn (X pr) F.b [sl 3 vel x] (F.HS s++els.map kq)=some (.bool (isL r),F.hr r++els.map kq)
theorem jh.ltV (s:S):F.V<F.N:=by
 have h:=F.hV s
 rw[←F.ls s]
 unfold yi at h
 cases hh:(F.HS s)[F.V]? with
 |none=>rw[hh]at h;cases h
 |some x=>exact(List.getElem?_eq_some_iff.1 hh).1
theorem qsk {n:Nat}:∀els:List ql,yl n (els.map kq)=true
 | []=>rfl
 |v::l=>by
  show(qa4 n (kq v)&&yl n (l.map kq))=true
  rw[qsk l];rfl
theorem qek {n:Nat}:∀ {a b:ze},yl n a=true→yl n b=true→yl n (a++b)=true
 | [],b,_,h2=>h2
 |x::a,b,h1,h2=>by
  simp only[yl,Bool.and_eq_true]at h1
  show(qa4 n x&&yl n (a++b))=true
  rw[h1.1,qek h1.2 h2];rfl
theorem jh.below {els:List ql}{r:S⊕D}{n:Nat}(hn:F.N≤n):yl n (F.hr r++els.map kq)=true:=by
 cases r with
 |inl s=>exact qek (F.bs n s hn) (qsk els)
 |inr d=>exact qek (F.bd n d hn) (qsk els)
theorem jh.len {els:List ql}{r:S⊕D}:(F.hr r++els.map kq).length=F.N+els.length:=by
 rw[List.length_append,List.length_map]
 cases r with
 |inl s=>show(F.HS s).length+_=_;rw[F.ls]
 |inr d=>show(F.HD d).length+_=_;rw[F.ld]
end
theorem jim {o28:Bool}{H:ze}{x vs:Option (List ql)}{v:ql}{V n:Nat}{i:Int}(hv:yo (vs.getD []) i=some v)(hV:V<H.length):
  X pr (.region 1 [⟨some 32,.indexAddr 3 (.tmp 28) (.tmp 30),none,none⟩,⟨some 33,.load true 3 (.tmp 32),none,none⟩,⟨some 9,.alloc 0 [(.str []),(.int .i64 0),(.int .i64 0)],none,none⟩,⟨none,.store 3 (.tmp 9) (.tmp 33),none,none⟩] (some [0,5,9,28,29,30]))
   ⟨[(0,sl 3 vel x,false),(5,.ptr V 0,false),(28,sl 3 vel vs,o28),(29,.int .i64 n,false),(30,.int .i64 i,false)],H⟩=some (.normal,⟨[(0,sl 3 vel x,false),(5,.ptr V 0,false),(9,.ptr H.length 0,false),(28,sl 3 vel vs,o28),(29,.int .i64 n,false),(30,.int .i64 i,false)],H++[kq v]⟩):=by
 simp only[go_sem,seval,zm hv,qkw,qhw,qh3,Nat.add_zero,qk2,qkz]
 rfl
section
variable {S D:Type}(F:jh S D)
def jh.args (x:Option (List ql)):List qa:=[sl 3 vel x,.vptr (sl 1 zg F.ch),.vptr (.fn (.yield F.b) [] []),.vptr (sl 8 zd F.ps),.vptr (.bool F.c),.ptr F.V 0]
def jh.visits (f:S→Option (List ql)→Option (S⊕D)):Prop:=∀s x (els:List ql) r,f s x=some r→∃t,ye pr (X pr) 197 (F.args x) (F.HS s++els.map kq)=some (.bool (isL r),false,F.hr r++els.map kq++t)
def qyw (f:S→Option (List ql)→Option (S⊕D))(x vs:Option (List ql))(d:Int×S):Option ((Int×S)⊕((Int×S)⊕(ql×D))):=
 cond (decide (d.1<((vs.getD []).length:Int))) (j5 (yo (vs.getD []) d.1) fun v=>j5 (f198 x) fun q=>cond (q.2||q.1.isNone) (j5 (apO q.1 [v]) fun x'=>j5 (f d.2 x') fun r=>match r with
  | .inl s'=>some (.inl (j9 .i64 (d.1+1),s'))
  | .inr e=>some (.inr (.inr (v,e)))) none) (some (.inr (.inl d)))
def qj9 (x vs:Option (List ql))(o28:Bool)(els:List ql)(d:Int×S):qd:=⟨[(0,sl 3 vel x,false),(5,.ptr F.V 0,false),(28,sl 3 vel vs,o28),(29,.int .i64 ((vs.getD []).length:Int),false),(30,.int .i64 d.1,false)],F.HS d.2++els.map kq⟩
def qq3 (x vs:Option (List ql))(o28:Bool)(els:List ql):(Int×S)⊕(ql×D)→qj×qd
 | .inl d=>(.exit 0,⟨[(0,sl 3 vel x,false),(5,.ptr F.V 0,false),(28,sl 3 vel vs,o28),(29,.int .i64 ((vs.getD []).length:Int),false),(30,.int .i64 d.1,false),(31,.bool false,false)],F.HS d.2++els.map kq⟩)
 | .inr d=>(.ret,⟨[(7,.bool false,false)],F.HD d.2++(els++[d.1]).map kq⟩)
theorem j3h {f:S→Option (List ql)→Option (S⊕D)}(hf:F.visits f){x vs:Option (List ql)}{o28:Bool}{els:List ql}(d:Int×S)(r)(h:qyw f x vs d=some r):yt pr qjq (qj9 F x vs o28 els) (qq3 F x vs o28 els) d r:=by
 obtain⟨i,s⟩:=d
 unfold qyw at h
 dsimp only at h
 rcases j4 h with⟨h1,k⟩|⟨h1,k⟩
 ·obtain⟨v,h2,k⟩:=j0 k
  obtain⟨⟨x1,w1⟩,h3,k⟩:=j0 k
  rcases j4 k with⟨h4,k⟩|⟨h4,k⟩
  ·obtain⟨x',h5,k⟩:=j0 k
   obtain⟨r1,h6,k⟩:=j0 k
   have g3:=jnz h3
   have hlt:F.V<(F.HS s++els.map kq).length:=by
    rw[List.length_append,F.ls];have:=F.ltV s;omega
   have hb:=jim (o28:=o28) (x:=x) (n:=(vs.getD []).length) h2 hlt
   have hV:=jph (t:=els.map kq++[kq v]) (F.hV s)
   rw[←List.append_assoc]at hV
   obtain⟨t,hc⟩:=hf s x' (els++[v]) r1 h6
   have he:F.HS s++(els++[v]).map kq=F.HS s++els.map kq++[kq v]:=by rw[List.map_append,List.append_assoc];rfl
   have hlen:(F.HS s++els.map kq++[kq v]).length=F.N+(els++[v]).length:=by rw[←he];exact F.len (r:=.inl s)
   have hlen2:(F.HS s++els.map kq).length=F.N+els.length:=F.len (r:=.inl s)
   have ha:qac (F.HS s++els.map kq++[kq v]).length (.bool (isL r1)) (F.hr r1++(els++[v]).map kq++t)=F.hr r1++(els++[v]).map kq:=by
    rw[hlen]
    exact qp0 F.len rfl (F.below (by omega))
   rw[he]at hc
   have hd:((F.HS s++els.map kq++[kq v])[F.V]?)=some (.cells [(.fn (.func 197) [] [.vptr (sl 1 zg F.ch),.vptr (.fn (.yield F.b) [] []),.vptr (sl 8 zd F.ps),.vptr (.bool F.c),.ptr F.V 0],false)]):=jam hV
   have hVl:F.V<(F.HS s++els.map kq++[kq v]).length:=by rw[List.length_append];omega
   generalize hH:F.HS s++els.map kq=H at *
   simp only[kq,jh.args]at hd hVl hc ha
   have ap:appR 3 32 (H++[.cells [(.str v.kind,false),(.int .i64 v.a,false),(.int .i64 v.b,false)]]) (cond w1 (some 36) none) (some (sl 3 vel x1)) (some (.list false 3 [.agg [.str v.kind,.int .i64 v.a,.int .i64 v.b]]))=some ⟨sl 3 vel x',true,cond w1 (some 36) none,H++[.cells [(.str v.kind,false),(.int .i64 v.a,false),(.int .i64 v.b,false)]]⟩:=by
    cases w1 with
    |true=>rw[cT,qr5 h5];rfl
    |false=>rw[cF,qs8 h5 (by simpa using h4)];rfl
   cases r1 with
   |inl s'=>
    cases k
    have hs:F.hr (.inl s')=F.HS s':=rfl
    refine qby (st':=⟨[(0,sl 3 vel x,false),(5,.ptr F.V 0,false),(28,sl 3 vel vs,o28),(29,.int .i64 ((vs.getD []).length:Int),false),(30,.int .i64 (j9 .i64 (i+1)),false)],F.HS s'++(els++[v]).map kq⟩) ?_ ?_
    ·cases w1 with
     |true=>
      simp only[cT,isL,hs]at ap hc ha
      simp only[go_sem,seval,qjq,qj9,h1,hH,zm h2,qkw,qhw,qh3,Nat.add_zero,qk2,qkz,hd,hVl,decide_true,g3,ap,hc,ha]
     |false=>
      simp only[cF,isL,hs]at ap hc ha
      simp only[go_sem,seval,qjq,qj9,h1,hH,zm h2,qkw,qhw,qh3,Nat.add_zero,qk2,qkz,hd,hVl,decide_true,g3,ap,hc,ha]
    ·have hn:(F.HS s++els.map kq).length=F.N+els.length:=F.len (r:=.inl s)
     have hm:F.HS s'++(els++[v]).map kq=(F.HS s'++els.map kq)++[kq v]:=by rw[List.map_append,List.append_assoc];rfl
     show gc (F.HS s++els.map kq).length _=qj9 F x vs o28 els (j9 .i64 (i+1),s')
     rw[hn,hm]
     refine qh9 (h:=F.HS s'++els.map kq) (h':=[kq v]) (F.len (r:=.inl s')).symm rfl ?_ (F.below (r:=.inl s') (by omega))
     have b1:Abs.below (F.N+els.length) (sl 3 vel x)=true:=by simp only[go_sem,seval]
     have b2:Abs.below (F.N+els.length) (sl 3 vel vs)=true:=by simp only[go_sem,seval]
     have b3:Abs.below (F.N+els.length) (.ptr F.V 0)=true:=by
      show Nat.blt F.V _=true
      have:=F.ltV s
      exact Nat.ble_eq_true_of_le (by omega)
     show(Abs.below _ (sl 3 vel x)&&(Abs.below _ (.ptr F.V 0)&&(Abs.below _ (sl 3 vel vs)&&(true&&(true&&true)))))=true
     rw[b1,b2,b3];rfl
   |inr e=>
    cases k
    have hs:F.hr (.inr e)=F.HD e:=rfl
    refine zc ?_
    cases w1 with
    |true=>
     simp only[cT,isL,hs]at ap hc ha
     simp only[go_sem,seval,qjq,qj9,h1,hH,zm h2,qkw,qhw,qh3,Nat.add_zero,qk2,qkz,hd,hVl,decide_true,g3,ap,hc,ha,qq3]
    |false=>
     simp only[cF,isL,hs]at ap hc ha
     simp only[go_sem,seval,qjq,qj9,h1,hH,zm h2,qkw,qhw,qh3,Nat.add_zero,qk2,qkz,hd,hVl,decide_true,g3,ap,hc,ha,qq3]
  ·cases k
 ·cases k
  exact zc (by simp only[go_sem,seval,qjq,qj9,h1,qq3]<;>rfl)
theorem jhy {f:S→Option (List ql)→Option (S⊕D)}{x vs:Option (List ql)}{q:Option (List ql)×Bool}(hx:f198 x=some q)(ho:(q.2||q.1.isNone)=true)(hl:(vs.getD []).length≤9):∀ {k i:Nat} {s:S} {r},(vs.getD []).length=i+k→qbh (fun s v=>j5 (apO q.1 [v]) fun x'=>f s x') ((vs.getD []).drop i) s=some r →
  ∃d,itO (qyw f x vs) ((i:Int),s)=some d∧(match r,d with | .inl s',.inl d'=>d'.2=s' | .inr e,.inr d'=>d'.2=e|_,_=>False)
 |0,i,s,r,hk,h=>by
  rw[List.drop_eq_nil_of_le (by omega)]at h
  cases h
  refine⟨.inl ((i:Int),s),k9 ?_,rfl⟩
  unfold qyw
  dsimp only
  rw[dF (show ¬(i:Int)<((vs.getD []).length:Int) by omega)];rfl
 |k+1,i,s,r,hk,h=>by
  have hi:i<(vs.getD []).length:=by omega
  have hv:(vs.getD [])[i]?=some (vs.getD [])[i]:=List.getElem?_eq_getElem hi
  rw[kh hv]at h
  simp only[qbh]at h
  obtain⟨r1,h1,h2⟩:=j0 h
  have e:qyw f x vs ((i:Int),s)=some (Sum.elim (fun s'=>.inl (((i+1:Nat):Int),s')) (fun e=>.inr (.inr ((vs.getD [])[i],e))) r1):=by
   obtain⟨x',h3,h4⟩:=j0 h1
   unfold qyw
   dsimp only
   rw[dT (show(i:Int)<((vs.getD []).length:Int) by omega),cT,qgl,hv,j6,hx,j6,ho,cT,h3,j6,h4,j6,yq (x:=(i:Int)+1) (by omega) (by omega)]
   cases r1<;>rfl
  cases r1 with
  |inl s'=>
   obtain⟨d,g1,g2⟩:=jhy hx ho hl (k:=k) (i:=i+1) (by omega) h2
   exact⟨d,by rw[qbb e];exact g1,g2⟩
  |inr e'=>
   cases h2
   exact⟨_,k9 e,rfl⟩
theorem qxe {α:Type}{g g':S→α→Option (S⊕D)}(hg:∀s v r,g s v=some r→g' s v=some r):∀ {l:List α} {s:S} {r},qbh g l s=some r→qbh g' l s=some r
 | [],s,r,h=>h
 |v::l,s,r,h=>by
  simp only[qbh]at h ⊢
  obtain⟨r1,h1,h2⟩:=j0 h
  rw[hg _ _ _ h1,j6]
  cases r1 with
  |inl s'=>exact qxe hg h2
  |inr e=>exact h2
theorem q7c {α:Type}{o v:Option (List α)}{ys:List α}(h:apO o ys=some v):v.getD []=o.getD []++ys:=by
 unfold apO at h
 split at h
 ·cases h
  cases o<;>cases ys<;>simp[apS]
 ·cases h
theorem qvm {h0 b:Nat}{al:Option (List Nat)}{h:ze}:qc0 h0 al false 1 h (some (.vptr (.fn (.yield b) [] [])))=some ⟨.fn (.yield b) [] [],false,none,h⟩:=rfl
theorem jfq {x:Option (List ql)}{q}(h:f198 x=some q):q.1.getD []=x.getD []:=by
 unfold f198 at h
 cases x with
 |none=>cases h;rfl
 |some l=>
  obtain⟨v,h1,h2⟩:=j0 h
  cases h2
  have:=q7c h1
  simpa using this
theorem q2c {y:S→Option (List ql)→Option (S⊕D)}(hy:F.yields y):∀m,F.visits fun s x=>cond (decide ((F.ch.getD []).length=(x.getD []).length+m)) (vis y F.ch F.ps F.c m x s) none
 |0,s,x,els,r,h=>by
  rcases j4 h with⟨h1,k⟩|⟨h1,k⟩
  ·have h1:(F.ch.getD []).length=(x.getD []).length:=by simpa using h1
   unfold vis at k
   obtain⟨q,h2,k⟩:=j0 k
   have g2:=jnz h2
   have g3:=hy s q.1 els r k
   have hd:decide (((x.getD []).length:Int)=((F.ch.getD []).length:Int))=true:=dT (by omega)
   unfold jh.args
   rw[kr (show pr.fns 197=some c197 from rfl) (by simp)]
   refine⟨[],?_⟩
   rw[List.append_nil]
   simp only[go_sem,seval,c197,hd,qvm,g2,g3]
  ·cases k
 |m+1,s,x,els,r,h=>by
  rcases j4 h with⟨h1,k⟩|⟨h1,k⟩
  ·have h1:(F.ch.getD []).length=(x.getD []).length+(m+1):=by simpa using h1
   unfold vis at k
   obtain⟨i,h2,k⟩:=j0 k
   obtain⟨p,h3,k⟩:=j0 k
   obtain⟨vs,h4,k⟩:=j0 k
   rcases j4 k with⟨h5,k⟩|⟨h5,k⟩
   ·obtain⟨q,h6,k⟩:=j0 k
    rcases j4 k with⟨h7,k⟩|⟨h7,k⟩
    ·have ih:=q2c hy m
     have hd:decide (((x.getD []).length:Int)=((F.ch.getD []).length:Int))=false:=dF (by omega)
     have k':qbh (fun s v=>j5 (apO q.1 [v]) fun x'=>(fun s x=>cond (decide ((F.ch.getD []).length=(x.getD []).length+m)) (vis y F.ch F.ps F.c m x s) none) s x') (vs.1.getD []) s=some r:=qxe (fun s v r hr=>by
      obtain⟨x',j1,j2⟩:=j0 hr
      have hl:(x'.getD []).length=(x.getD []).length+1:=by rw[q7c j1,jfq h6,List.length_append];rfl
      rw[j1,j6]
      dsimp only
      rw[dT (by omega),cT]
      exact j2) k
     obtain⟨d,g1,g2⟩:=jhy h6 h7 (by simpa using h5) (k:=(vs.1.getD []).length) (i:=0) (by omega) (by rw[List.drop_zero];exact k')
     have hlo:X pr (.loop qjq) (qj9 F x vs.1 vs.2 els (((0:Nat):Int),s))=some (qq3 F x vs.1 vs.2 els d):=kg (j3h F ih) (fun d=>by cases d<;>(intro hh;cases hh)) g1
     have g99:=W99 h4
     unfold jh.args
     rw[kr (show pr.fns 197=some c197 from rfl) (by simp)]
     simp only[qj9,show((0:Nat):Int)=0 from rfl]at hlo
     cases r with
     |inl s'=>
      cases d with
      |inl d'=>
       obtain rfl:d'.2=s':=g2
       refine⟨[],?_⟩
       rw[List.append_nil]
       simp only[qq3]at hlo
       simp only[go_sem,seval,c197,hd,qvm,zm h2,zm h3,g99,hlo]
       rfl
      |inr d'=>exact g2.elim
     |inr e=>
      cases d with
      |inl d'=>exact g2.elim
      |inr d'=>
       obtain rfl:d'.2=e:=g2
       refine⟨[kq d'.1],?_⟩
       simp only[qq3]at hlo
       have hm:F.HD d'.2++(els++[d'.1]).map kq=F.HD d'.2++els.map kq++[kq d'.1]:=by rw[List.map_append,List.append_assoc];rfl
       rw[hm]at hlo
       simp only[go_sem,seval,c197,hd,qvm,zm h2,zm h3,g99,hlo]
       rfl
    ·cases k
   ·cases k
  ·cases k
end
section
variable {S D:Type}
structure Base (S D:Type) where
 R:S→ze
 RD:D→ze
 n:Nat
 b:Nat
 ls:∀s,(R s).length=n
 ld:∀d,(RD d).length=n
 bs:∀k s,n≤k→yl k (R s)=true
 bd:∀k d,n≤k→yl k (RD d)=true
 hb:b<n
 ch:Option (List Int)
 ps:Option (List qb)
 c:Bool
def qhc (B:Base S D):qq:=.cells [(.fn (.func 197) [] [.vptr (sl 1 zg B.ch),.vptr (.fn (.yield B.b) [] []),.vptr (sl 8 zd B.ps),.vptr (.bool B.c),.ptr B.n 0],false)]
theorem qym (B:Base S D){k:Nat}(h:B.n+1≤k):qa4 k (qhc B)=true:=by
 have h1:Abs.below k (sl 1 zg B.ch)=true:=by simp only[go_sem,seval]
 have h2:Abs.below k (sl 8 zd B.ps)=true:=by simp only[go_sem,seval]
 have h3:Nat.blt B.b k=true:=Nat.ble_eq_true_of_le (by have:=B.hb;omega)
 have h4:Nat.blt B.n k=true:=Nat.ble_eq_true_of_le (by omega)
 show((true&&(Abs.below k (sl 1 zg B.ch)&&((Nat.blt B.b k&&true&&true)&&(Abs.below k (sl 8 zd B.ps)&&(true&&(Nat.blt B.n k&&true))))))&&true)=true
 rw[h1,h2,h3,h4];rfl
def Base.fam (B:Base S D):jh S D where
 HS s:=B.R s++[qhc B]
 HD d:=B.RD d++[qhc B]
 N:=B.n+1
 V:=B.n
 b:=B.b
 ls s:=by rw[List.length_append,B.ls];rfl
 ld d:=by rw[List.length_append,B.ld];rfl
 bs n s h:=qek (B.bs n s (by omega)) (by show(qa4 n (qhc B)&&true)=true;rw[qym B h];rfl)
 bd n d h:=qek (B.bd n d (by omega)) (by show(qa4 n (qhc B)&&true)=true;rw[qym B h];rfl)
 ch:=B.ch
 ps:=B.ps
 c:=B.c
 hV s:=by
  have h:yi (B.R s++[qhc B]) (B.R s).length=some _:=qhw
  rw[B.ls]at h
  exact h
theorem jmb (B:Base S D){y:S→Option (List ql)→Option (S⊕D)}(hy:B.fam.yields y){s:S}{r}(h:vis y B.ch B.ps B.c (B.ch.getD []).length none s=some r):
  ye pr (X pr) 196 [.fn (.yield B.b) [] [],.vptr (sl 1 zg B.ch),.vptr (sl 8 zd B.ps),.vptr (.bool B.c)] (B.R s)=some (.tup [],false,B.fam.hr r):=by
 obtain⟨t,hc⟩:=q2c B.fam hy (B.ch.getD []).length s none [] r (by
  show cond (decide ((B.ch.getD []).length=0+(B.ch.getD []).length)) (vis y B.ch B.ps B.c (B.ch.getD []).length none s) none=some r
  rw[dT (Nat.zero_add _).symm,cT]
  exact h)
 have e1:B.fam.HS s++([]:List ql).map kq=B.R s++[qhc B]:=by rw[List.map_nil,List.append_nil];rfl
 have e2:B.fam.hr r++([]:List ql).map kq++t=B.fam.hr r++t:=by rw[List.map_nil,List.append_nil]
 rw[e1,e2]at hc
 have hl:(B.R s++[qhc B]).length=B.n+1:=by rw[List.length_append,B.ls];rfl
 have ha:qac (B.R s++[qhc B]).length (.bool (isL r)) (B.fam.hr r++t)=B.fam.hr r:=by
  rw[hl]
  refine qp0 ?_ rfl ?_
  ·have:=B.fam.len (els:=[]) (r:=r)
   rw[List.map_nil,List.append_nil]at this
   exact this
  ·have:=B.fam.below (els:=[]) (r:=r) (n:=B.n+1) (Nat.le_refl _)
   rw[List.map_nil,List.append_nil]at this
   exact this
 have hn:=B.ls s
 have ea:B.fam.args none=[.list true 0 [],.vptr (sl 1 zg B.ch),.vptr (.fn (.yield B.b) [] []),.vptr (sl 8 zd B.ps),.vptr (.bool B.c),.ptr (B.R s).length 0]:=by rw[hn];rfl
 rw[ea]at hc
 have ev:qhc B=.cells [(.fn (.func 197) [] [.vptr (sl 1 zg B.ch),.vptr (.fn (.yield B.b) [] []),.vptr (sl 8 zd B.ps),.vptr (.bool B.c),.ptr (B.R s).length 0],false)]:=by unfold qhc;rw[hn]
 rw[ev]at hc ha
 generalize B.R s=H at *
 rw[kr (show pr.fns 196=some c196 from rfl) (by simp)]
 simp only[go_sem,seval,c196,qkw,qhw,qh3,Nat.add_zero,qk2,qkz,decide_true,hc,ha]
end
end Go.Z
end
