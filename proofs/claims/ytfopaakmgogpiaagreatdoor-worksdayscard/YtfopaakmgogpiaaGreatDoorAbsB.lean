/- One operation. -/
import Derived.Test.YtfopaakmgogpiaaGreatDoorAbsA
import Derived.WalkSpells
import Derived.Laws.Cover3
open Option renaming some→I,none→E4,isSome_iff_exists→Gm,map_some→Hd
open List renaming drop_eq_nil_of_le→En,flatMap_cons→Gl,getElem?_toArray→Gp,replicate→H7,map_cons→Mn
open Nat renaming le_of_ble_eq_true→E1,succ_mul→E2,le_refl→E3,eq_of_beq_eq_true→Gq,ble→Ha,add_assoc→Mm
open Bool renaming false_eq_true→E6,false→Gk,true→G2,and_eq_true→Hb,not_true→If,xor→Mr
open Array renaming ext'→Gn
namespace Go.Abs
def kf (P:Program)(C0:ay)(w0:World)(C:ay)(tmps:Array Value)(d:Loc)(env:Env)(res:qq)(v:Value)(w':World):Prop:=
 ∃C' ω',C.le C'∧av P C' ω' w0 C0 res.heap w'∧aj C' ω' w' w0.heap.size (k9 env res.strip) tmps∧bD C' res.v v∧(res.own=G2→aF C' ω' w' w0.heap.size d res.v v)
theorem qwb (C:ay){v:Value}{x:qa}(h:CW v=I x):bD C x v:=by
 unfold CW at h
 split at h<;>first|cases h|skip
 ·exact .bool _
 ·exact .int _ _
 ·exact .str _
 ·exact .iH _
 ·exact .bN
 ·exact .bM
 ·exact .bX
theorem L9 (C:ay):∀ {vs:List Value} {xs:List qa},uZ vs=I xs→aM C xs vs
 | [],xs,h=>by simp[uZ]at h;subst h;exact .nil
 |v::vs,xs,h=>by
  simp only[uZ]at h
  split at h
  ·rename_i x hx
   split at h
   ·rename_i ys mf
    cases h
    exact .cons _ _ _ _ (qwb C hx) (L9 C mf)
   ·cases h
  ·cases h
theorem qt8 (C:ay){v:Value}{x:qa}(h:ofValue v=I x):bD C x v:=by
 unfold ofValue at h
 split at h
 ·rename_i cs
  split at h
  ·rename_i xs hx
   cases h
   exact .agg _ _ (L9 C hx)
  ·cases h
 ·exact qwb C h
section
variable {P:Program}{C C0:ay}{ω:Nat→Option Loc}{w w0:World}{hp:j8}{env:Env}{a:Act}{B:Nat}
theorem zu {x:Operand}{y:qh}{v:qa}(he:aW C env a.tmps)(hc:zr x=I y)(hv:zd env y=I v):bD C v (a.eval x):=by
 cases x with
 |tmp t=>
  simp only[zr]at hc
  cases hc
  simp only[zd]at hv
  split at hv
  ·rename_i x hx
   cases hv
   obtain⟨u,h1,h2⟩:=he t x hx
   have:a.eval (.tmp t)=u:=by simp[Act.eval,Array.getD_eq_getD_getElem?,h1]
   rw[this];exact h2
  ·cases hv
 |const u=>
  simp only[zr]at hc
  split at hc
  ·rename_i z hz
   cases hc
   simp only[zd]at hv
   cases hv
   exact qt8 C hz
  ·cases hc
 |func f=>
  simp only[zr]at hc
  cases hc
  simp only[zd]at hv
  cases hv
  exact .fn (.func f) (.func f) [] [] [] [] rfl .nil .nil
 |global g=>simp[zr]at hc
theorem C8 (he:aW C env a.tmps):∀ {xs:List Operand} {ys:List qh} {vs:List qa},oJ xs=I ys→fC env ys=I vs→aM C vs (xs.map a.eval)
 | [],ys,vs,hc,hv=>by simp[oJ]at hc;subst hc;simp[fC]at hv;subst hv;exact .nil
 |x::xs,ys,vs,hc,hv=>by
  simp only[oJ]at hc
  split at hc
  ·rename_i y hy
   split at hc
   ·rename_i zs pA
    cases hc
    simp only[fC]at hv
    split at hv
    ·rename_i v pB
     split at hv
     ·rename_i us gy
      cases hv
      exact .cons _ _ _ _ (zu he hy pB) (C8 he pA gy)
     ·cases hv
    ·cases hv
   ·cases hc
  ·cases hc
theorem bD.cS {b:Bool}{v:Value}(h:bD C (.bool b) v):v=.bool b:=by cases h;rfl
theorem bD.bF {k:IntKind}{n:Int}{v:Value}(h:bD C (.int k n) v):v=.int k n:=by cases h;rfl
theorem bD.bW {s:List UInt8}{v:Value}(h:bD C (.str s) v):v=.string ⟨⟨s⟩⟩:=by cases h;rfl
theorem bD.cU {b o:Nat}{v:Value}(h:bD C (.ptr b o) v):∃r,C.β b=I r∧v=.pointer (I ⟨r,o,E4⟩):=by cases h;exact⟨_,‹_›,rfl⟩
theorem bD.en {x:qa}{v:Value}(h:bD C (.ah x) v):∃r o,v=.pointer (I ⟨r,o,E4⟩)∧bY C r x.flat o:=by cases h;exact⟨_,_,rfl,‹_›⟩
theorem bD.dS {cs:List qa}{v:Value}(h:bD C (.agg cs) v):∃vs,v=.agg ⟨vs⟩∧aM C cs vs:=by cases h;exact⟨_,rfl,‹_›⟩
theorem bD.nw {cs:List qa}{v:Value}(h:bD C (.aC cs) v):∃vs,v=.tuple ⟨vs⟩∧aM C cs vs:=by cases h;exact⟨_,rfl,‹_›⟩
theorem bD.eo {b o len:Nat}{v:Value}(h:bD C (.ms b o len) v):∃r cap,C.β b=I r∧len≤cap∧v=.slice (I ⟨r,o,E4⟩) len cap:=by cases h;exact⟨_,_,‹_›,‹_›,rfl⟩
theorem bD.cG {n:Bool}{sz:Nat}{xs:List qa}{v:Value}(h:bD C (.list n sz xs) v):
  (n=G2∧xs=[]∧v=.slice E4 0 0)∨(n=Gk∧∃r o cap,v=.slice (I ⟨r,o,E4⟩) xs.length cap∧xs.length≤cap∧aY C r sz xs o)∨(n=Gk∧xs=[]∧∃a,a.spot≠E4∧v=.slice (I a) 0 0):=by
 cases h
 ·exact .inl ⟨rfl,rfl,rfl⟩
 ·exact .inr (.inl ⟨rfl,_,_,_,rfl,‹_›,‹_›⟩)
 ·exact .inr (.inr ⟨rfl,rfl,_,‹_›,rfl⟩)
theorem bD.len {n:Bool}{sz:Nat}{xs:List qa}{v:Value}(h:bD C (.list n sz xs) v):∃b cap,v=.slice b xs.length cap:=by
 rcases h.cG with⟨rfl,rfl,rfl⟩|⟨rfl,r,o,cap,rfl,_,_⟩|⟨rfl,rfl,a,_,rfl⟩
 ·exact⟨E4,0,rfl⟩
 ·exact⟨_,_,rfl⟩
 ·exact⟨_,_,rfl⟩
theorem add_lit (r o n:Nat):(⟨r,o,E4⟩:Addr).add n=⟨r,o+n,E4⟩:=by unfold Addr.add;split<;>simp_all
theorem yT (k:IntKind)(n:Int):j9 k n=k.wrap n:=by
 unfold j9
 cases h:pv k n with
 |false=>rfl
 |true=>
  simp only[cT]
  symm
  have key:∀m:Nat,IntKind.min k≤n→n≤IntKind.max k→k.wrap n=n:=by
   intro _ h1 h2
   unfold IntKind.wrap
   cases k<;>simp[IntKind.bits,IntKind.signed,IntKind.min,IntKind.max]at *<;>omega
  refine key 0 ?_ ?_
  ·cases k<;>cases n<;>simp[pv,IntKind.min,IntKind.signed,IntKind.bits]at *<;>omega
  ·cases k<;>cases n<;>simp[pv,IntKind.max,IntKind.signed,IntKind.bits]at *<;>omega
theorem C9 {t:TypeId}{b:Bool}(h:fb P t=I b)(w:World):(isAgg t).run P w=.ok b w:=by
 unfold fb at h
 unfold isAgg
 cases hu:P.underlying t with
 |none=>simp[hu]at h
 |some d=>rw[hu]at h;simp[run_underlying hu];cases d<;>simp at h<;>subst h<;>rfl
theorem iJ {t:TypeId}{n:Nat}(h:yg P t=I n)(w:World):(sizeOf t).run P w=.ok n w:=by
 unfold yg at h
 cases hi:P.info? t with
 |none=>simp[hi]at h
 |some i=>simp[hi]at h;simp[sizeOf,typeInfo,hi,h]
theorem q35 {t:TypeId}{ag:Bool}{n off:Nat}{cs:List qa}{vs:List Value}{x:qa}(hg:fb P t=I ag)(hn:yg P t=I n)(hp:part ag cs off n=I x)(hr:aM C cs vs)(w:World):
  ∃v,(Go.part t ⟨vs⟩ off).run P w=.ok v w∧bD C x v:=by
 unfold part at hp
 cases ag with
 |true=>
  simp only[cT]at hp
  cases hb:Ha (off+n) cs.length with
  |false=>simp[hb]at hp
  |true=>
   simp[hb]at hp
   subst hp
   refine⟨.agg ⟨(vs.drop off).take n⟩,?_,.agg _ _ ((hr.drop off).take n)⟩
   simp[Go.part,C9 hg,iJ hn]
 |false=>
  simp only[cond_false]at hp
  obtain⟨v,h1,h2⟩:=hr.get hp
  exact⟨v,by simp[Go.part,C9 hg,h1],h2⟩
theorem qp5 (a:List UInt8):(⟨⟨a⟩⟩:ByteArray).toList=a:=by
 rw[ByteArray.toList_eq]
end
theorem R8:∀ {ks:List Kd} {xs ys:List qa} (EI:List Kd) (fq nx:List qa),xs.length=ks.length→ys.length=ks.length →
  kz (ks++EI) (xs++fq) (ys++nx)=match kz ks xs ys with|some G2=>kz EI fq nx|r=>r
 | [],[],[],EI,fq,nx,_,_=>by simp[kz]
 |k::ks,x::xs,y::ys,EI,fq,nx,h,h'=>by
  simp only[List.cons_append,kz]
  cases he:kN k x y with
  |none=>simp
  |some b=>cases b with
   |false=>simp
   |true=>simpa using R8 EI fq nx (by simpa using h) (by simpa using h')
 | [],_::_,_,_,_,_,h,_=>by simp at h
 | [],[],_::_,_,_,_,_,h=>by simp at h
 |_::_,[],_,_,_,_,h,_=>by simp at h
 |_::_,_::_,[],_,_,_,_,h=>by simp at h
def tV (ag:Bool)(us:List Value):Value:=if ag then .agg ⟨us⟩else us.headD undef
def Ma:TypeDesc→Bool
 | .struct _=>G2
 | .array _ _=>G2
 |_=>Gk
section
variable {P:Program}{C:ay}
theorem jcm {t:TypeId}{d:TypeDesc}(h:P.underlying t=I d):fb P t=I (Ma d):=by
 unfold fb
 rw[h]
 cases d<;>rfl
theorem Mb {t:TypeId}{ag:Bool}{n off:Nat}{us:List Value}(hg:fb P t=I ag)(hn:yg P t=I n)(h1:ag=Gk→n=1)(hl:off+n≤us.length)(w:World):
  (Go.part t ⟨us⟩ off).run P w=.ok (tV ag ((us.drop off).take n)) w:=by
 cases ag with
 |true=>simp[Go.part,C9 hg,iJ hn,tV]
 |false=>
  obtain rfl:=h1 rfl
  have aX:off<us.length:=by omega
  simp only[Go.part,Sem.run_bind,C9 hg,Result.andThen_ok,tV,E6,if_false]
  have e:(⟨us⟩:Array Value)[off]?=I us[off]:=by
   show(List.toArray us)[off]?=_
   rw[Gp,List.getElem?_eq_getElem aX]
  rw[e,List.drop_eq_getElem_cons aX]
  rfl
def R9 (P:Program)(C:ay)(n:Nat)(t:TypeId)(ks:List Kd):Prop:=
 ∃ag,fb P t=I ag∧yg P t=I ks.length∧(ag=Gk→ks.length=1)∧∀d,n≤d→∀xs ys us vs b w,aM C xs us→aM C ys vs→xs.length=ks.length→ys.length=ks.length→kz ks xs ys=I b →
  (Op.equalIn d t (tV ag us) (tV ag vs)).run P w=.ok b w
theorem Mc {α:Type}(xs:List α)(off n:Nat):xs.drop off=(xs.drop off).take n++xs.drop (off+n):=by
 rw[←List.drop_drop];exact(List.take_append_drop _ _).symm
theorem qt6 {n d:Nat}(hd:n≤d):∀(fs:List Field) (off:Nat) (ks:List Kd) (xs ys:List qa) (us vs:List Value) (b:Bool) (w:World),
  EA (tU P n) off fs=I ks →
  (∀f∈fs,∀ks,tU P n f.type=I ks→R9 P C n f.type ks) →
  aM C xs us→aM C ys vs→xs.length=off+ks.length→ys.length=off+ks.length→kz ks (xs.drop off) (ys.drop off)=I b →
  (Op.eqFields d ⟨us⟩ ⟨vs⟩ fs).run P w=.ok b w
 | [],off,ks,xs,ys,us,vs,b,w,hf,_,hx,hy,mg,nT,he=>by
  simp[EA]at hf
  subst hf
  rw[En (by simp at mg;omega),En (by simp at nT;omega)]at he
  simp[kz]at he
  subst he
  simp[Op.eqFields]
 |f::fs,off,ks,xs,ys,us,vs,b,w,hf,df,hx,hy,mg,nT,he=>by
  simp only[EA]at hf
  split at hf
  ·rename_i hc
   simp at hc
   obtain⟨EJ,vb⟩:=hc
   split at hf
   ·rename_i k1 fW
    split at hf
    ·rename_i k2 cV
     cases hf
     obtain⟨ag,cK,cD,h1,heq⟩:=df f (by simp) k1 fW
     have Sb:=hx.length
     have vd:=hy.length
     simp at mg nT
     have p1:=Mb (P:=P) (us:=us) (off:=f.offset) cK cD h1 (by omega) w
     have p2:=Mb (P:=P) (us:=vs) (off:=f.offset) cK cD h1 (by omega) w
     rw[Mc xs off k1.length,Mc ys off k1.length,R8 _ _ _ (by simp;omega) (by simp;omega)]at he
     simp only[Op.eqFields,ne_eq,EJ,not_false_eq_true,if_true,Sem.run_bind,p1,p2,Result.andThen_ok]
     rw[vb]
     cases hb:kz k1 ((xs.drop off).take k1.length) ((ys.drop off).take k1.length)with
     |none=>rw[hb]at he;cases he
     |some b1=>
      rw[hb]at he
      rw[heq d hd _ _ _ _ b1 w ((hx.drop off).take _) ((hy.drop off).take _) (by simp;omega) (by simp;omega) hb]
      cases b1 with
      |false=>simp at he;subst he;simp
      |true=>
       simp only[Result.andThen_ok,If,E6,if_false]
       exact qt6 hd fs (off+k1.length) k2 xs ys us vs b w cV (fun g hg=>df g (by simp[hg])) hx hy (by omega) (by omega) he
    ·cases hf
   ·cases hf
  ·cases hf
theorem qx9 {n d:Nat}(hd:n≤d){e:TypeId}{ag:Bool}{k1:List Kd}(cK:fb P e=I ag)(cD:yg P e=I k1.length)(h1:ag=Gk→k1.length=1)
  (heq:∀d,n≤d→∀xs ys us vs b w,aM C xs us→aM C ys vs→xs.length=k1.length→ys.length=k1.length→kz k1 xs ys=I b→(Op.equalIn d e (tV ag us) (tV ag vs)).run P w=.ok b w):
  ∀(len i:Nat) (xs ys:List qa) (us vs:List Value) (b:Bool) (w:World),
  aM C xs us→aM C ys vs→xs.length=i*k1.length+len*k1.length→ys.length=i*k1.length+len*k1.length→kz (H7 len k1).flatten (xs.drop (i*k1.length)) (ys.drop (i*k1.length))=I b →
  (Op.eqItems d e k1.length ⟨us⟩ ⟨vs⟩ (List.range' i len)).run P w=.ok b w
 |0,i,xs,ys,us,vs,b,w,hx,hy,mg,nT,he=>by
  rw[En (by simp at mg;omega),En (by simp at nT;omega)]at he
  simp[kz]at he
  subst he
  simp[Op.eqItems]
 |len+1,i,xs,ys,us,vs,b,w,hx,hy,mg,nT,he=>by
  have Sb:=hx.length
  have vd:=hy.length
  rw[E2]at mg nT
  have p1:=Mb (P:=P) (us:=us) (off:=i*k1.length) cK cD h1 (by omega) w
  have p2:=Mb (P:=P) (us:=vs) (off:=i*k1.length) cK cD h1 (by omega) w
  rw[List.replicate_succ,List.flatten_cons,Mc xs (i*k1.length) k1.length,Mc ys (i*k1.length) k1.length,R8 _ _ _ (by simp;omega) (by simp;omega)]at he
  simp only[List.range'_succ,Op.eqItems,Sem.run_bind,p1,p2,Result.andThen_ok]
  cases hb:kz k1 ((xs.drop (i*k1.length)).take k1.length) ((ys.drop (i*k1.length)).take k1.length)with
  |none=>rw[hb]at he;cases he
  |some b1=>
   rw[hb]at he
   rw[heq d hd _ _ _ _ b1 w ((hx.drop _).take _) ((hy.drop _).take _) (by simp;omega) (by simp;omega) hb]
   cases b1 with
   |false=>simp at he;subst he;simp
   |true=>
    simp only[Result.andThen_ok,If,E6,if_false]
    refine qx9 hd cK cD h1 heq len (i+1) xs ys us vs b w hx hy (by rw[mg,E2];omega) (by rw[nT,E2];omega) ?_
    rw[E2];exact he
theorem q1h {t:TypeId}{n:Nat}(h:yg P t=I n):P.cellsOf t=n:=by
 unfold yg at h
 unfold Program.cellsOf
 rw[h];rfl
theorem q06 {t:TypeId}{n:Nat}(h:yg P t=I n):∃i,P.info? t=I i∧i.size=n:=by
 unfold yg at h
 cases hi:P.info? t with
 |none=>simp[hi]at h
 |some i=>exact⟨i,rfl,by simpa[hi]using h⟩
theorem q52 {k:Kd}{x y:qa}{b:Bool}(h:kz [k] [x] [y]=I b):kN k x y=I b:=by
 simp only[kz]at h
 split at h<;>simp_all
theorem ja0 {xs:List qa}{us:List Value}(h:aM C xs us)(hl:xs.length=1):∃x u,xs=[x]∧us=[u]∧bD C x u:=by
 obtain⟨x,rfl⟩:=List.length_eq_one_iff.1 hl
 cases h with
 |cons _ _ u vs hx h=>cases h;exact⟨x,u,rfl,rfl,hx⟩
theorem q2u {k:Kd}{x y:qa}{b:Bool}{u v:Value}(h:kN k x y=I b)(hx:bD C x u)(hy:bD C y v):
  match k with
  | .int=>∃kd a c,u=.int kd a∧v=.int kd c∧b=(a == c)
  | .str=>∃a c:List UInt8,u=.string ⟨⟨a⟩⟩∧v=.string ⟨⟨c⟩⟩∧b=(a == c)
  | .bool=>∃a c,u=.bool a∧v=.bool c∧b=(a == c):=by
 unfold kN at h
 split at h
 ·rename_i k a k' c
  cases hx;cases hy
  by_cases hk:k=k'
  ·subst hk;simp at h;exact⟨_,_,_,rfl,rfl,h.symm⟩
  ·simp[hk]at h
 ·cases hx;cases hy;cases h;exact⟨_,_,rfl,rfl,rfl⟩
 ·cases hx;cases hy;cases h;exact⟨_,_,rfl,rfl,rfl⟩
 ·cases h
theorem q5a {t:TypeId}{k:Kd}{x y:qa}{b:Bool}{u v:Value}(hk:jH P t=I k)(h:kN k x y=I b)(hx:bD C x u)(hy:bD C y v)(d:Nat)(w:World):
  (Op.equalIn (d+1) t u v).run P w=.ok b w:=by
 have hc:=q2u h hx hy
 unfold jH at hk
 cases hu:P.underlying t with
 |none=>simp[hu]at hk
 |some D=>
  rw[hu]at hk
  cases D<;>simp at hk<;>subst hk<;>simp only[]at hc
  ·obtain⟨a,c,rfl,rfl,rfl⟩:=hc;exact run_equalIn_bool w d t a c hu
  ·obtain⟨kd,a,c,rfl,rfl,rfl⟩:=hc;exact run_equalIn_int w d t kd _ a c hu
  ·obtain⟨a,c,rfl,rfl,rfl⟩:=hc
   rw[run_equalIn_string w d t _ _ hu,qp5,qp5]
theorem Sc:∀ (n:Nat) (t:TypeId) (ks:List Kd),tU P n t=I ks→R9 P C n t ks
 |0,t,ks,h=>by simp[tU]at h
 |n+1,t,ks,h=>by
  unfold tU at h
  cases hu:P.underlying t with
  |none=>simp[hu]at h
  |some D=>
   rw[hu]at h
   have cK:=jcm hu
   have scalar:∀k,ks=[k]→yg P t=I 1→jH P t=I k→Ma D=Gk→R9 P C (n+1) t ks:=by
    intro k hks hs hk ha
    subst hks
    refine⟨Gk,by rw[cK,ha],hs,fun _=>rfl,?_⟩
    intro d hd xs ys us vs b w hx hy mg nT he
    obtain⟨d,rfl⟩:∃m,d=m+1:=⟨d-1,by omega⟩
    obtain⟨x,u,rfl,rfl,Da⟩:=ja0 hx mg
    obtain⟨y,v,rfl,rfl,Md⟩:=ja0 hy nT
    exact q5a hk (q52 he) Da Md d w
   cases D<;>simp only[]at h<;>first|(simp at h;done)|skip
   case int k=>
    split at h<;>first|cases h|skip
    rename_i hs
    exact scalar .int rfl (by simpa using hs) (by simp[jH,hu]) rfl
   case bool=>
    split at h<;>first|cases h|skip
    rename_i hs
    exact scalar .bool rfl (by simpa using hs) (by simp[jH,hu]) rfl
   case string=>
    split at h<;>first|cases h|skip
    rename_i hs
    exact scalar .str rfl (by simpa using hs) (by simp[jH,hu]) rfl
   case array len e=>
    split at h
    ·rename_i k1 fW
     split at h
     ·rename_i hs
      cases h
      obtain⟨ag,Sd,cD,h1,heq⟩:=Sc n e k1 fW
      have hlen:(H7 len k1).flatten.length=len*k1.length:=by simp[List.length_flatten]
      refine⟨G2,by simpa[Ma]using cK,by rw[hlen];simpa using hs,(fun h=>by cases h),?_⟩
      intro d hd xs ys us vs b w hx hy mg nT he
      obtain⟨d,rfl⟩:∃m,d=m+1:=⟨d-1,by omega⟩
      obtain⟨i,hi,_⟩:=q06 cD
      simp only[tV,if_true]
      rw[run_equalIn_array w d _ _ hu hi,q1h cD,List.range_eq_range']
      exact qx9 (by omega) Sd cD h1 heq len 0 xs ys us vs b w hx hy (by rw[mg,hlen];omega) (by rw[nT,hlen];omega) (by simpa using he)
     ·cases h
    ·cases h
   case struct fs=>
    split at h
    ·rename_i k1 fW
     split at h
     ·rename_i hs
      cases h
      simp at hs
      obtain⟨hso,cD⟩:=hs
      refine⟨G2,by simpa[Ma]using cK,cD,(fun h=>by cases h),?_⟩
      intro d hd xs ys us vs b w hx hy mg nT he
      obtain⟨d,rfl⟩:∃m,d=m+1:=⟨d-1,by omega⟩
      simp only[tV,if_true]
      have hf:P.fieldsOf t=fs:=by simp[Program.fieldsOf,hu]
      rw[run_equalIn_struct w d t _ _ (by rw[hf];exact hu) hso,hf]
      exact qt6 (n:=n) (by omega) fs.toList 0 _ xs ys us vs b w fW (fun f _ ks hp=>Sc n f.type ks hp) hx hy (by omega) (by omega) (by simpa using he)
     ·cases h
    ·cases h
end
section
variable {P:Program}{C:ay}{w:World}{env:Env}{a:Act}{o:Oper}
def Val (P:Program)(C:ay)(a:Act)(o:Oper)(w:World)(x:qa):Prop:=∃v,(execOp a.eval o).run P w=.ok (.value v) w∧bD C x v
theorem jis {x:Operand}{y:qh}{v:qa}(he:aW C env a.tmps)(ho:o.op=.move x∨o.op=.assign x)(hc:zr x=I y)(hv:zd env y=I v):Val P C a o w v:=by
 refine⟨a.eval x,?_,zu he hc hv⟩
 rcases ho with ho|ho<;>simp[execOp,ho]
theorem je6 {c x y:Operand}{c' x' y':qh}{b:Bool}{u v:qa}(he:aW C env a.tmps)(ho:o.op=.pick c x y)(h1:zr c=I c')(h2:zr x=I x')(h3:zr y=I y')
  (e1:zd env c'=I (.bool b)) (e2:zd env x'=I u) (e3:zd env y'=I v):Val P C a o w (bif b then u else v):=by
 have r1:=(zu he h1 e1).cS
 have r2:=zu he h2 e2
 have r3:=zu he h3 e3
 refine⟨if b then a.eval x else a.eval y,by simp[execOp,ho,r1,asBool],?_⟩
 cases b<;>simpa
theorem qq4 {x:Operand}{y:qh}{v:qa}(he:aW C env a.tmps)(ho:o.op=.nilCheck x)(hc:zr x=I y)(hv:zd env y=I v)
  (hk:(∃b p,v=.ptr b p)∨(∃z,v=.ah z)):Val P C a o w v:=by
 have r:=zu he hc hv
 rcases hk with⟨b,p,rfl⟩|⟨z,rfl⟩
 ·obtain⟨q,_,hq⟩:=r.cU
  exact⟨a.eval x,by simp[execOp,ho,hq],r⟩
 ·obtain⟨q,p,hq,_⟩:=r.en
  exact⟨a.eval x,by simp[execOp,ho,hq],r⟩
theorem Se (op:BinOp)(k:IntKind)(x y:Int)(t:TypeId)(h1:op≠.shl)(h2:op≠.shr):binOp op t (.int k x) (.int k y)=match op with
  | .add | .sub | .mul=>Op.intArith op k x y
  | .quo | .rem=>Op.intDiv op k x y
  | .and | .or | .xor | .andNot=>Op.intBits op k x y
  |_=>Op.intCmp op x y:=by
 cases op<;>simp at h1 h2<;>simp[binOp]
theorem q8l {op:BinOp}{k:IntKind}{x y:Int}{v:qa}(h:nQ op k x y=I v)(t:TypeId)(w:World):∃u,(binOp op t (.int k x) (.int k y)).run P w=.ok u w∧bD C v u:=by
 unfold nQ at h
 cases op<;>simp only[]at h<;>first|(cases h;done)|skip
 case quo=>
  cases hy:(y == 0)with
  |true=>simp[hy]at h
  |false=>
   simp[hy]at h
   subst h
   have:y≠0:=by simpa using hy
   rw[yT,Se _ _ _ _ _ (by simp) (by simp)]
   refine⟨_,?_,.int _ _⟩
   simp[Op.intDiv,this]
 case rem=>
  cases hy:(y == 0)with
  |true=>simp[hy]at h
  |false=>
   simp[hy]at h
   subst h
   have:y≠0:=by simpa using hy
   rw[Se _ _ _ _ _ (by simp) (by simp)]
   refine⟨_,?_,.int _ _⟩
   simp[Op.intDiv,this]
 all_goals (cases h;rw[Se _ _ _ _ _ (by simp) (by simp)];try rw[yT])
 all_goals first
  |exact⟨_,rfl,.int _ _⟩
  |exact⟨_,rfl,.bool _⟩
theorem qr6:∀ (x y:List UInt8),bytesLess x y=Op.bytesLess x y
 |x,[]=>by cases x<;>rfl
 | [],_::_=>rfl
 |a::x,b::y=>by simp only[bytesLess,Op.bytesLess,qr6 x y]
theorem q9q {op:BinOp}{x y:List UInt8}{v:qa}(h:Ez op x y=I v)(t:TypeId)(w:World):∃u,(binOp op t (.string ⟨⟨x⟩⟩) (.string ⟨⟨y⟩⟩)).run P w=.ok u w∧bD C v u:=by
 unfold Ez at h
 cases op<;>simp only[]at h<;>first|(cases h;done)|skip
 ·cases hb:Ha (x.length+y.length) 4611686018427387904 with
  |false=>simp[hb]at h
  |true=>
   simp[hb]at h
   subst h
   have hle:x.length+y.length≤4611686018427387904:=E1 hb
   refine⟨.string ⟨⟨x++y⟩⟩,?_,.str _⟩
   have e1:(⟨⟨x⟩⟩:ByteArray).size=x.length:=rfl
   have e2:(⟨⟨y⟩⟩:ByteArray).size=y.length:=rfl
   have e3:(⟨⟨x⟩⟩:ByteArray)++⟨⟨y⟩⟩=⟨⟨x++y⟩⟩:=by
    apply ByteArray.ext
    simp[ByteArray.data_append]
   simp only[binOp,Op.stringOp,e1,e2,e3,IntKind.max,IntKind.signed,IntKind.bits]
   rw[if_neg (by simp;omega)]
   rfl
 all_goals (cases h;refine⟨_,?_,.bool _⟩;simp[binOp,Op.stringOp,qr6])
theorem q9s {op:BinOp}{x y v:qa}{u u':Value}(h:fo op x y=I v)(hx:bD C x u)(hy:bD C y u')(t:TypeId)(w:World):∃z,(binOp op t u u').run P w=.ok z w∧bD C v z:=by
 unfold fo at h
 split at h
 ·rename_i k a k' b
  obtain rfl:=hx.bF
  obtain rfl:=hy.bF
  have hsh:∀(op:BinOp),(op=.shl∨op=.shr)→LY op k a b=I v→∃z,(binOp op t (.int k a) (.int k' b)).run P w=.ok z w∧bD C v z:=by
   intro op hop h
   unfold LY at h
   cases hb:decide (b<0)with
   |true=>simp[hb]at h
   |false=>
    have eT:¬b<0:=by simpa using hb
    rcases hop with rfl|rfl<;>simp[hb]at h<;>subst h
    ·rw[yT]; (refine⟨_,?_,.int _ _⟩;simp[binOp,Op.shift,eT])
    ·(refine⟨_,?_,.int _ _⟩;simp[binOp,Op.shift,eT])
  have hin:op≠.shl→op≠.shr→(bif decide (k=k')then nQ op k a b else E4)=I v→∃z,(binOp op t (.int k a) (.int k' b)).run P w=.ok z w∧bD C v z:=by
   intro _ _ h
   by_cases hk:k=k'
   ·subst hk;simp at h;exact q8l h t w
   ·simp[hk]at h
  cases op<;>simp only[]at h<;>first|exact hsh _ (.inl rfl) h|exact hsh _ (.inr rfl) h|exact hin (by simp) (by simp) h
 ·obtain rfl:=hx.bW
  obtain rfl:=hy.bW
  exact q9q h t w
 ·cases h
theorem q5m (op:BinOp)(t:TypeId)(x y:Operand)(u v:Value)(w:World)(h1:¬(u=.nilIface∧v=.nilIface))(h2:(∀cs,u≠.agg cs)∨P.eqGuardType P.depth t=Gk):(eqGuard op t x y u v).run P w=.ok () w:=by
 unfold eqGuard
 by_cases hop:(!(match op with | .eql | .neq=>G2|_=>Gk))=G2
 ·cases op<;>simp_all
 ·cases op<;>simp at hop ⊢
  all_goals (
   split
   ·exact absurd ⟨rfl,rfl⟩ h1
   ·rcases h2 with h2|h2
    ·rename_i cs _ ;exact absurd rfl (h2 cs)
    ·simp[h2]
   ·rfl)
theorem Me {op:BinOp}{t u:TypeId}{x y:Operand}{p q z:Value}(ho:o.op=.binOp op t x y u)(hx:a.eval x=p)(hy:a.eval y=q)(h1:¬(p=.nilIface∧q=.nilIface))(h2:(∀cs,p≠.agg cs)∨P.eqGuardType P.depth t=Gk)
  (hz:(binOp op t p q).run P w=.ok z w):(execOp a.eval o).run P w=.ok (.value z) w:=by
 have hg:=q5m (P:=P) op t x y p q w h1 h2
 subst hx;subst hy
 simp only[execOp,ho,Sem.run_bind,hg,Result.andThen_ok,hz,Sem.run_pure]
theorem q1c {x:qa}{v:Value}(h:bD C x v)(hx:x≠.undef)(hy:x≠.any:=by simp):v≠.nilIface:=by
 cases h<;>simp at hx hy ⊢
theorem q1b {op:BinOp}{x y v:qa}(h:fo op x y=I v):(x≠.undef∧(∀cs,x≠.agg cs)∧x≠.any):=by
 unfold fo at h
 split at h<;>simp at h ⊢
theorem q55 {x:qa}{v:Value}(h:bD C x v)(hx:x≠.undef)(ha:∀cs,x≠.agg cs)(hy:x≠.any:=by simp):∀cs,v≠.agg cs:=by
 cases h<;>simp at hx ha hy ⊢
theorem jm3 {op:BinOp}{t u:TypeId}{x y:Operand}{x' y':qh}{p q v:qa}(he:aW C env a.tmps)(ho:o.op=.binOp op t x y u)(h1:zr x=I x')(h2:zr y=I y')
  (e1:zd env x'=I p) (e2:zd env y'=I q) (hv:fo op p q=I v):Val P C a o w v:=by
 have r1:=zu he h1 e1
 have r2:=zu he h2 e2
 obtain⟨hn,ha,hy⟩:=q1b hv
 obtain⟨z,hz,hr⟩:=q9s (P:=P) hv r1 r2 t w
 refine⟨z,?_,hr⟩
 exact Me ho rfl rfl (fun h=>q1c r1 hn hy h.1) (.inl (q55 r1 hn ha hy)) hz
theorem Sf {neq:Bool}{t:TypeId}{u v:Value}{b:Bool}(w:World)(hu:(∀k n,u≠.int k n)∧(∀s,u≠.string s)∧(∀k n,u≠.float k n)∧(∀k n m,u≠.complex k n m))
  (h:(Op.equal t u v).run P w=.ok b w):(binOp (if neq then .neq else .eql) t u v).run P w=.ok (.bool (bif neq then !b else b)) w:=by
 obtain⟨h1,h2,h3,h4⟩:=hu
 cases neq<;>cases u<;>simp_all [binOp]
theorem jle {op:BinOp}{neq:Bool}{t u:TypeId}{x y:Operand}{x' y':qh}{p q:List qa}{ks:List Kd}{b:Bool}(he:aW C env a.tmps)(ho:o.op=.binOp op t x y u)(hop:op=if neq then .neq else .eql)
  (h1:zr x=I x') (h2:zr y=I y') (e1:zd env x'=I (.agg p)) (e2:zd env y'=I (.agg q)) (hg:P.eqGuardType P.depth t=Gk) (hk:tU P L2 t=I ks) (cK:fb P t=I G2)
  (hZ:p.length=ks.length) (pC:q.length=ks.length) (hb:kz ks p q=I b):Val P C a o w (.bool (bif neq then !b else b)):=by
 obtain⟨us,hu,ru⟩:=(zu he h1 e1).dS
 obtain⟨vs,hv,rv⟩:=(zu he h2 e2).dS
 obtain⟨ag,ha,_,_,heq⟩:=Sc (C:=C) L2 t ks hk
 rw[cK]at ha;cases ha
 have hq:=heq 10000 (by decide) p q us vs b w ru rv hZ pC hb
 simp only[tV,if_true]at hq
 refine⟨_,?_,.bool _⟩
 have pD:=Sf (P:=P) (neq:=neq) (t:=t) (u:=.agg ⟨us⟩) (v:=.agg ⟨vs⟩) (b:=b) w ⟨by simp,by simp,by simp,by simp⟩ hq
 exact Me (hop▸ho) hu hv (by simp) (.inr hg) pD
theorem jkt {op:BinOp}{neq:Bool}{t u:TypeId}{x y:Operand}{x' y':qh}{p q:Bool}(he:aW C env a.tmps)(ho:o.op=.binOp op t x y u)(hop:op=if neq then .neq else .eql)
  (h1:zr x=I x') (h2:zr y=I y') (e1:zd env x'=I (.bool p)) (e2:zd env y'=I (.bool q)) (ht:P.underlying t=I .bool):Val P C a o w (.bool (bif neq then !(p == q)else p == q)):=by
 have hu:=(zu he h1 e1).cS
 have hv:=(zu he h2 e2).cS
 refine⟨_,?_,.bool _⟩
 have pD:=Sf (P:=P) (neq:=neq) (t:=t) (u:=.bool p) (v:=.bool q) (b:=p == q) w ⟨by simp,by simp,by simp,by simp⟩ (run_equalIn_bool w 9999 t p q ht)
 exact Me (hop▸ho) hu hv (by simp) (.inl (by simp)) pD
theorem jbr {op:BinOp}{neq b:Bool}{t u:TypeId}{x y:Operand}{c:Value}(ho:o.op=.binOp op t x y u)(hop:op=if neq then .neq else .eql)
  (hy:a.eval y=c) (bw:(∀k n,a.eval x≠.int k n)∧(∀s,a.eval x≠.string s)∧(∀k n,a.eval x≠.float k n)∧(∀k n m,a.eval x≠.complex k n m)) (cK:∀cs,a.eval x≠.agg cs) (Sg:a.eval x≠.nilIface)
  (h:(Op.equal t (a.eval x) c).run P w=.ok b w):Val P C a o w (.bool (bif neq then !b else b)):=by
 refine⟨_,?_,.bool _⟩
 have pD:=Sf (P:=P) (neq:=neq) w bw h
 exact Me (hop▸ho) rfl hy (fun h=>Sg h.1) (.inl cK) pD
theorem jty {op:UnOp}{t:TypeId}{x:Operand}{x':qh}{p v:qa}(he:aW C env a.tmps)(ho:o.op=.unOp op t x)(h1:zr x=I x')(e1:zd env x'=I p)(hv:wv op p=I v):Val P C a o w v:=by
 have r1:=zu he h1 e1
 unfold wv at hv
 split at hv
 ·obtain hu:=r1.bF
  cases hv
  rw[yT]
  (refine⟨_,?_,.int _ _⟩;simp[execOp,ho,hu,Op.unary,Op.intArith])
 ·obtain hu:=r1.cS
  cases hv
  (refine⟨_,?_,.bool _⟩;simp[execOp,ho,hu,Op.unary])
 ·cases hv
theorem jdo {s d:TypeId}{k k0:IntKind}{x:Operand}{x':qh}{k1:IntKind}{n:Int}(he:aW C env a.tmps)(ho:o.op=.convert s d x)(hs:P.underlying s=I (.int k0))(hd:P.underlying d=I (.int k))
  (h1:zr x=I x') (e1:zd env x'=I (.int k1 n)):Val P C a o w (.int k (j9 k n)):=by
 have hu:=(zu he h1 e1).bF
 rw[yT]
 (refine⟨_,?_,.int _ _⟩;simp[execOp,ho,hu,convert,run_underlying hs,run_underlying hd,Conv.intToInt])
theorem q5t {s d:TypeId}{x:Operand}{x':qh}{v:qa}(he:aW C env a.tmps)(ho:o.op=.convert s d x)(hs:P.underlying s=I .string)(hd:P.underlying d=I .string)
  (h1:zr x=I x') (e1:zd env x'=I v) (hv:∃l,v=.str l):Val P C a o w v:=by
 obtain⟨l,rfl⟩:=hv
 have r:=zu he h1 e1
 have hu:=r.bW
 exact⟨_,by simp[execOp,ho,hu,convert,run_underlying hs,run_underlying hd];rfl,by rw[←hu];exact r⟩
theorem q30 {s d:TypeId}{x:Operand}{x':qh}{v:qa}{k0:IntKind}(he:aW C env a.tmps)(ho:o.op=.convert s d x)(hs:P.underlying s=I (.int k0))(hd:P.underlying d=I .string)
  (h1:zr x=I x') (e1:zd env x'=I v) (hv:∃l,v=.str l):Val P C a o w v:=by
 obtain⟨l,rfl⟩:=hv
 have r:=zu he h1 e1
 have hu:=r.bW
 exact⟨_,by simp[execOp,ho,hu,convert,run_underlying hs,run_underlying hd];rfl,by rw[←hu];exact r⟩
theorem q5v {s d:TypeId}{x:Operand}{x':qh}{k0 k1:IntKind}{n:Int}(he:aW C env a.tmps)(ho:o.op=.convert s d x)(hs:P.underlying s=I (.int k0))(hd:P.underlying d=I .string)
  (h1:zr x=I x') (e1:zd env x'=I (.int k1 n)):Val P C a o w (.str (Utf8.encode n).data.toList):=by
 have hu:=(zu he h1 e1).bF
 exact⟨.string (Utf8.encode n),by simp[execOp,ho,hu,convert,run_underlying hs,run_underlying hd,Conv.intToString],.str _⟩
theorem q3d {s d:TypeId}{x:Operand}{x':qh}{k1:IntKind}{n:Int}(he:aW C env a.tmps)(ho:o.op=.convert s d x)(hs:P.underlying s=I .string)(hd:P.underlying d=I .string)
  (h1:zr x=I x') (e1:zd env x'=I (.int k1 n)):Val P C a o w (.str (Utf8.encode n).data.toList):=by
 have hu:=(zu he h1 e1).bF
 exact⟨.string (Utf8.encode n),by simp[execOp,ho,hu,convert,run_underlying hs,run_underlying hd,Conv.intToString],.str _⟩
theorem jc3 {t:TypeId}{x:Operand}{x':qh}{i:Nat}{fs:Array Field}{f:Field}{ag:Bool}{n:Nat}{cs:List qa}{v:qa}(he:aW C env a.tmps)(ho:o.op=.field t x i)(ht:P.underlying t=I (.struct fs))(hf:fs[i]?=I f)
  (cK:fb P f.type=I ag) (hn:yg P f.type=I n) (h1:zr x=I x') (e1:zd env x'=I (.agg cs)) (hv:Abs.part ag cs f.offset n=I v):Val P C a o w v:=by
 obtain⟨us,hu,ru⟩:=(zu he h1 e1).dS
 obtain⟨z,hz,hr⟩:=q35 cK hn hv ru w
 refine⟨z,?_,hr⟩
 simp[execOp,ho,hu,Instr.field,run_underlying ht,hf,asAgg,hz]
theorem EK {n:Nat}{v:qa}{j:Nat}(h:idx n v=I j):∃k,v=.int k (j:Int)∧j<n:=by
 unfold idx at h
 split at h
 ·rename_i k i
  cases hb:Nat.blt i n with
  |false=>simp[hb]at h
  |true=>
   simp[hb]at h
   subst h
   exact⟨k,rfl,by have:=E1 hb;omega⟩
 ·cases h
theorem jb1 {n:Nat}{v:qa}{j:Nat}(h:yJ n v=I j):∃k,v=.int k (j:Int)∧j≤n:=by
 unfold yJ at h
 split at h
 ·rename_i k i
  cases hb:Ha i n with
  |false=>simp[hb]at h
  |true=>
   simp[hb]at h
   subst h
   exact⟨k,rfl,E1 hb⟩
 ·cases h
theorem jc8 {t e:TypeId}{x i:Operand}{x' i':qh}{len n:Nat}{ag:Bool}{cs:List qa}{iv v:qa}{j:Nat}(he:aW C env a.tmps)(ho:o.op=.index t x i)(ht:P.underlying t=I (.array len e))
  (cK:fb P e=I ag) (hn:yg P e=I n) (h1:zr x=I x') (h2:zr i=I i') (e1:zd env x'=I (.agg cs)) (e2:zd env i'=I iv) (hj:idx len iv=I j) (hv:Abs.part ag cs (j*n) n=I v):Val P C a o w v:=by
 obtain⟨us,hu,ru⟩:=(zu he h1 e1).dS
 obtain⟨k,rfl,aX⟩:=EK hj
 have hi:=(zu he h2 e2).bF
 obtain⟨z,hz,hr⟩:=q35 cK hn hv ru w
 refine⟨z,?_,hr⟩
 simp[execOp,ho,hu,hi,Instr.index,asIntOf,run_underlying ht,aX,iJ hn,hz]
theorem q3n {t:TypeId}{x i:Operand}{x' i':qh}{s:List UInt8}{iv:qa}{j:Nat}{c:UInt8}(he:aW C env a.tmps)(ho:o.op=.index t x i)(ht:P.underlying t=I .string)
  (h1:zr x=I x') (h2:zr i=I i') (e1:zd env x'=I (.str s)) (e2:zd env i'=I iv) (hj:idx s.length iv=I j) (hc:s[j]?=I c):Val P C a o w (.int .u8 c.toNat):=by
 have hu:=(zu he h1 e1).bW
 obtain⟨k,rfl,aX⟩:=EK hj
 have hi:=(zu he h2 e2).bF
 refine⟨_,?_,.int _ _⟩
 have hb:(⟨⟨s⟩⟩:ByteArray)[j]?=I c:=by
  rw[getElem?_pos (ByteArray.mk ⟨s⟩) j aX]
  exact congrArg I (List.getElem?_eq_some_iff.1 hc).2
 simp[execOp,ho,hu,hi,Instr.index,asIntOf,run_underlying ht,hb]
end
section
variable {P:Program}{C:ay}{w:World}{env:Env}{a:Act}{o:Oper}
theorem qcf {z:qa}(h:z.isAgg=Gk):z.flat=[z]:=by cases z<;>simp[qa.isAgg,qa.flat]at *
theorem q65 {ag:Bool}{cs:List qa}{off n r q:Nat}{z:qa}(hc:bY C r cs q)(hz:Abs.part ag cs off n=I z)(hx:Mr ag z.isAgg=Gk):bY C r z.flat (q+off):=by
 unfold Abs.part at hz
 cases ag with
 |true=>
  simp only[cT]at hz
  cases hb:Ha (off+n) cs.length with
  |false=>simp[hb]at hz
  |true=>simp[hb]at hz;subst hz;exact bY.take n (bY.drop off hc)
 |false=>
  simp only[cond_false]at hz
  rw[qcf (by simpa using hx)]
  obtain⟨u,h1,h2⟩:=hc.get hz
  exact .dc _ _ _ _ u h1 h2 (.gI _ _)
theorem qp1 {t:TypeId}{x:Operand}{x':qh}{i:Nat}{fs:Array Field}{f:Field}{ag:Bool}{n:Nat}{p v:qa}(he:aW C env a.tmps)(ho:o.op=.fieldAddr t x i)(ht:P.underlying t=I (.struct fs))(hf:fs[i]?=I f)
  (hn:yg P f.type=I n) (yU:0<n) (h1:zr x=I x') (e1:zd env x'=I p)
  (hv:(∃b q,p=.ptr b q∧v=.ptr b (q+f.offset))∨(∃cs z,p=.ah (.agg cs)∧Abs.part ag cs f.offset n=I z∧Mr ag z.isAgg=Gk∧v=.ah z)):Val P C a o w v:=by
 have bp:∀r q,a.eval x=.pointer (I ⟨r,q,E4⟩)→(execOp a.eval o).run P w=.ok (.value (.pointer (I ⟨r,q+f.offset,E4⟩))) w:=by
  intro r q hq
  simp[execOp,ho,Instr.fieldAt,run_underlying ht,hf,hq,Instr.sureAddr,fieldPlace,iJ hn,Nat.pos_iff_ne_zero.1 yU,add_lit]
 rcases hv with⟨b,q,rfl,rfl⟩|⟨cs,z,rfl,hz,hx,rfl⟩
 ·obtain⟨r,hr,hq⟩:=(zu he h1 e1).cU
  exact⟨_,bp r q hq,.ptr _ _ _ hr⟩
 ·obtain⟨r,q,hq,hc⟩:=(zu he h1 e1).en
  exact⟨_,bp r q hq,.ah _ _ _ (q65 hc hz hx)⟩
theorem qpw {t e:TypeId}{x i:Operand}{x' i':qh}{sz:Nat}{p iv v:qa}(he:aW C env a.tmps)(ho:o.op=.indexAddr t x i)(ht:P.underlying t=I (.slice e))
  (hn:yg P e=I sz) (h1:zr x=I x') (h2:zr i=I i') (e1:zd env x'=I p) (e2:zd env i'=I iv)
  (hv:(∃b q len j,p=.ms b q len∧idx len iv=I j∧v=.ptr b (q+j*sz))∨(∃nl xs z j,p=.list nl sz xs∧idx xs.length iv=I j∧xs[j]?=I z∧v=.ah z)):Val P C a o w v:=by
 have bp:∀r q len cap j,a.eval x=.slice (I ⟨r,q,E4⟩) len cap→idx len iv=I j→(execOp a.eval o).run P w=.ok (.value (.pointer (I ⟨r,q+j*sz,E4⟩))) w:=by
  intro r q len cap j hq hj
  obtain⟨k,rfl,aX⟩:=EK hj
  have hi:=(zu he h2 e2).bF
  simp[execOp,ho,Instr.indexAt,run_underlying ht,hq,hi,asIntOf,iJ hn,aX,add_lit]
 rcases hv with⟨b,q,len,j,rfl,hj,rfl⟩|⟨nl,xs,z,j,rfl,hj,hz,rfl⟩
 ·obtain⟨r,cap,hr,_,hq⟩:=(zu he h1 e1).eo
  exact⟨_,bp r q len cap j hq hj,.ptr _ _ _ hr⟩
 ·rcases(zu he h1 e1).cG with⟨rfl,rfl,hq⟩|⟨rfl,r,q,cap,hq,_,cL⟩|⟨rfl,rfl,_⟩
  ·simp at hz
  ·exact⟨_,bp r q _ cap j hq hj,.ah _ _ _ (cL.get hz)⟩
  ·simp at hz
theorem qr5 {t e:TypeId}{x i:Operand}{x' i':qh}{len sz:Nat}{ag:Bool}{p iv v:qa}{j:Nat}(he:aW C env a.tmps)(ho:o.op=.indexAddr t x i)(ht:P.underlying t=I (.array len e))
  (hn:yg P e=I sz) (h1:zr x=I x') (h2:zr i=I i') (e1:zd env x'=I p) (e2:zd env i'=I iv) (hj:idx len iv=I j)
  (hv:(∃b q,p=.ptr b q∧v=.ptr b (q+j*sz))∨(∃cs z,p=.ah (.agg cs)∧Abs.part ag cs (j*sz) sz=I z∧Mr ag z.isAgg=Gk∧v=.ah z)):Val P C a o w v:=by
 have bp:∀r q,a.eval x=.pointer (I ⟨r,q,E4⟩)→(execOp a.eval o).run P w=.ok (.value (.pointer (I ⟨r,q+j*sz,E4⟩))) w:=by
  intro r q hq
  obtain⟨k,rfl,aX⟩:=EK hj
  have hi:=(zu he h2 e2).bF
  simp[execOp,ho,Instr.indexAt,run_underlying ht,hq,hi,asIntOf,Instr.sureAddr,iJ hn,aX,add_lit]
 rcases hv with⟨b,q,rfl,rfl⟩|⟨cs,z,rfl,hz,hx,rfl⟩
 ·obtain⟨r,hr,hq⟩:=(zu he h1 e1).cU
  exact⟨_,bp r q hq,.ptr _ _ _ hr⟩
 ·obtain⟨r,q,hq,hc⟩:=(zu he h1 e1).en
  exact⟨_,bp r q hq,.ah _ _ _ (q65 hc hz hx)⟩
theorem Mf {x:Option Operand}{x':Option qh}{d n j:Nat}(he:aW C env a.tmps)(hc:mb x=I x')(hb:eR env d n x'=I j):
  (x=E4∧j=d)∨(∃y k,x=I y∧a.eval y=.int k (j:Int)∧j≤n):=by
 cases x with
 |none=>simp[mb]at hc;subst hc;simp[eR]at hb;exact .inl ⟨rfl,hb.symm⟩
 |some x=>
  simp only[mb]at hc
  split at hc
  ·rename_i z hz
   cases hc
   simp only[eR]at hb
   split at hb
   ·rename_i v hv
    obtain⟨k,rfl,hle⟩:=jb1 hb
    exact .inr ⟨x,k,rfl,(zu he hz hv).bF,hle⟩
   ·cases hb
  ·cases hc
theorem Mg {lo hi:Option Operand}{kX fh:Option qh}{len cap i j:Nat}{isS:Bool}(he:aW C env a.tmps)(h1:mb lo=I kX)(h2:mb hi=I fh)(b2:eR env len len fh=I j)(b1:eR env 0 j kX=I i)(hc:len≤cap)(w:World):
  (Instr.sliceBounds isS len cap (lo.map a.eval) (hi.map a.eval) E4).run P w=.ok (i,j,cap) w∧i≤j∧j≤len:=by
 have k2:j≤len:=by
  rcases Mf he h2 b2 with⟨_,rfl⟩|⟨_,_,_,_,h⟩
  ·exact E3 _
  ·exact h
 have k1:i≤j:=by
  rcases Mf he h1 b1 with⟨_,rfl⟩|⟨_,_,_,_,h⟩
  ·exact Nat.zero_le _
  ·exact h
 refine⟨?_,k1,k2⟩
 have hj:j≤cap:=by omega
 rcases Mf he h2 b2 with⟨rfl,rfl⟩|⟨y,k,rfl,hy,_⟩<;>rcases Mf he h1 b1 with⟨rfl,rfl⟩|⟨z,k',rfl,hz,_⟩
 ·simp[Instr.sliceBounds]
 ·simp[Instr.sliceBounds,hz,Instr.sliceBound,asIntOf,k1]
 ·simp[Instr.sliceBounds,hy,Instr.sliceBound,asIntOf,hj]
 ·simp[Instr.sliceBounds,hy,hz,Instr.sliceBound,asIntOf,hj,k1]
theorem q0v {t e:TypeId}{x:Operand}{lo hi:Option Operand}{x':qh}{kX fh:Option qh}{sz i j:Nat}{p v:qa}(he:aW C env a.tmps)(ho:o.op=.slice t x lo hi E4)(ht:P.underlying t=I (.slice e))
  (hn:yg P e=I sz) (h1:zr x=I x') (h2:mb lo=I kX) (h3:mb hi=I fh) (e1:zd env x'=I p)
  (hv:(∃b q len,p=.ms b q len∧eR env len len fh=I j∧eR env 0 j kX=I i∧(i=0∨i<j)∧v=.ms b (q+i*sz) (j-i)) ∨
   (∃nl cJ xs,p=.list nl cJ xs∧(sz=cJ∨xs=[])∧eR env xs.length xs.length fh=I j∧eR env 0 j kX=I i∧v=.list nl cJ ((xs.take j).drop i))):Val P C a o w v:=by
 have bp:∀b len cap,a.eval x=.slice b len cap→len≤cap→eR env len len fh=I j→eR env 0 j kX=I i →
   (execOp a.eval o).run P w=.ok (.value (.slice (if cap=i then b else b.map (·.add (i*sz))) (j-i) (cap-i))) w∧i≤j∧j≤len:=by
  intro b len cap hq hle b2 b1
  obtain⟨hb,k1,k2⟩:=Mg (P:=P) (isS:=true) he h2 h3 b2 b1 hle w
  refine⟨?_,k1,k2⟩
  simp[execOp,ho,Instr.sliceAt,Instr.slice,run_underlying ht,hq,hb,iJ hn]
 rcases hv with⟨b,q,len,rfl,b2,b1,oK,rfl⟩|⟨nl,cJ,xs,rfl,cD,b2,b1,rfl⟩
 ·obtain⟨r,cap,hr,hle,hq⟩:=(zu he h1 e1).eo
  obtain⟨hw,k1,k2⟩:=bp _ len cap hq hle b2 b1
  refine⟨_,hw,?_⟩
  by_cases hc:cap=i
  ·rw[if_pos hc]
   obtain rfl:i=0:=by omega
   simpa using qp.ms b q (j-0) r (cap-0) hr (by omega)
  ·rw[if_neg hc]
   simp only[Hd,add_lit]
   exact .ms _ _ _ _ _ hr (by omega)
 ·rcases(zu he h1 e1).cG with⟨rfl,rfl,hq⟩|⟨rfl,r,q,cap,hq,hle,cL⟩|⟨rfl,rfl,ad,lO,hq⟩
  ·obtain⟨hw,k1,k2⟩:=bp _ 0 0 hq (E3 _) b2 b1
   simp at k2
   obtain rfl:=k2
   obtain rfl:i=0:=by omega
   exact⟨_,hw,by simpa using qp.iH cJ⟩
  ·obtain⟨hw,k1,k2⟩:=bp _ _ cap hq hle b2 b1
   refine⟨_,hw,?_⟩
   have hl:((xs.take j).drop i).length=j-i:=by simp;omega
   rw[←hl]
   by_cases hc:cap=i
   ·rw[if_pos hc]
    have jJ:(xs.take j).drop i=[]:=En (by simp;omega)
    rw[jJ]
    exact .list _ _ _ _ _ (by simp) (.fe _ _ _)
   ·rw[if_neg hc]
    simp only[Hd,add_lit]
    refine .list _ _ _ _ _ (by rw[hl];omega) ?_
    rcases cD with rfl|rfl
    ·exact aY.drop i (aY.take j cL)
    ·simpa using qp.fe _ _ _
  ·obtain⟨hw,k1,k2⟩:=bp _ 0 0 hq (E3 _) b2 b1
   simp at k2
   obtain rfl:=k2
   obtain rfl:i=0:=by omega
   exact⟨_,hw,by simpa using qp.iI cJ ad lO⟩
theorem q3k {t e:TypeId}{x:Operand}{lo hi:Option Operand}{x':qh}{kX fh:Option qh}{len sz i j b q:Nat}(he:aW C env a.tmps)(ho:o.op=.slice t x lo hi E4)(ht:P.underlying t=I (.array len e))
  (hn:yg P e=I sz) (h1:zr x=I x') (h2:mb lo=I kX) (h3:mb hi=I fh) (e1:zd env x'=I (.ptr b q)) (b2:eR env len len fh=I j) (b1:eR env 0 j kX=I i) (oK:i=0∨i<j):Val P C a o w (.ms b (q+i*sz) (j-i)):=by
 obtain⟨r,hr,hq⟩:=(zu he h1 e1).cU
 obtain⟨hb,k1,k2⟩:=Mg (P:=P) (isS:=false) he h2 h3 b2 b1 (E3 len) w
 refine⟨_,by simp[execOp,ho,Instr.sliceAt,Instr.sureAddr,run_underlying ht,hq,hb,iJ hn];rfl,?_⟩
 by_cases hc:len=i
 ·rw[if_pos hc]
  obtain rfl:i=0:=by omega
  simpa using qp.ms b q (j-0) r (len-0) hr (by omega)
 ·rw[if_neg hc]
  simp only[add_lit]
  exact .ms _ _ _ _ _ hr (by omega)
theorem q08 (s:List UInt8)(i j:Nat):(⟨⟨s⟩⟩:ByteArray).extract i j=⟨⟨(s.take j).drop i⟩⟩:=by
 apply ByteArray.ext
 rw[ByteArray.data_extract]
 apply Gn
 simp[List.extract_eq_take_drop,List.drop_take]
theorem q25 {t:TypeId}{x:Operand}{lo hi:Option Operand}{x':qh}{kX fh:Option qh}{i j:Nat}{s:List UInt8}(he:aW C env a.tmps)(ho:o.op=.slice t x lo hi E4)(ht:P.underlying t=I .string)
  (h1:zr x=I x') (h2:mb lo=I kX) (h3:mb hi=I fh) (e1:zd env x'=I (.str s)) (b2:eR env s.length s.length fh=I j) (b1:eR env 0 j kX=I i):Val P C a o w (.str ((s.take j).drop i)):=by
 have hq:=(zu he h1 e1).bW
 obtain⟨hb,k1,k2⟩:=Mg (P:=P) (isS:=false) he h2 h3 b2 b1 (E3 s.length) w
 have cD:(⟨⟨s⟩⟩:ByteArray).size=s.length:=rfl
 refine⟨.string ⟨⟨(s.take j).drop i⟩⟩,?_,.str _⟩
 simp[execOp,ho,Instr.sliceAt,Instr.slice,run_underlying ht,hq,cD,hb,q08]
theorem q8x {k:Nat}{xs ys:Array Operand}{fq nx:List qh}{us vs:List qa}(he:aW C env a.tmps)(ho:o.op=.makeFunc (.func k) xs ys)(h1:oJ xs.toList=I fq)(h2:oJ ys.toList=I nx)(e1:fC env fq=I us)(e2:fC env nx=I vs):
  Val P C a o w (.fn (.func k) us vs):=by
 refine⟨.func (.func k) (xs.map a.eval) (ys.map a.eval),by simp[execOp,ho,Instr.makeFunc],?_⟩
 have r1:=C8 he h1 e1
 have r2:=C8 he h2 e2
 have q1:xs.map a.eval=⟨xs.toList.map a.eval⟩:=by apply Gn;simp
 have q2:ys.map a.eval=⟨ys.toList.map a.eval⟩:=by apply Gn;simp
 rw[q1,q2]
 exact .fn _ _ _ _ _ _ rfl r1 r2
theorem Sh {c:Call}{x:Operand}{t:TypeId}{x':qh}{p:qa}{n:Nat}(he:aW C env a.tmps)(ho:o.op=.call c)(dx:c.callee=.builtin .len)(dG:c.args.toList=[x])(dU:c.argTypes.toList=[t])
  (h1:zr x=I x') (e1:zd env x'=I p)
  (hv:(P.underlying t=I .string∧∃s,p=.str s∧n=s.length)∨((∃e,P.underlying t=I (.slice e))∧((∃nl sz xs,p=.list nl sz xs∧n=xs.length)∨(∃b q,p=.ms b q n)))):Val P C a o w (.int .i64 n):=by
 have ha:c.args=#[x]:=by apply Gn;simpa using dG
 have jK:c.argTypes=#[t]:=by apply Gn;simpa using dU
 refine⟨.int .i64 n,?_,.int _ _⟩
 simp only[execOp,ho,resolve,dx,ha,jK,Sem.run_bind,Sem.run_pure,Result.andThen_ok,invoke,builtin,Builtin.len_]
 rcases hv with⟨ht,s,rfl,rfl⟩|⟨⟨e,ht⟩,⟨nl,sz,xs,rfl,rfl⟩|⟨b,q,rfl⟩⟩
 ·have hq:=(zu he h1 e1).bW
  simp[run_underlying ht,hq,goInt]
  rfl
 ·obtain⟨b,cap,hq⟩:=(zu he h1 e1).len
  simp[run_underlying ht,hq,goInt]
 ·obtain⟨r,cap,_,_,hq⟩:=(zu he h1 e1).eo
  simp[run_underlying ht,hq,goInt]
theorem Si {f:qa→qa→Option qa}{g:Value→Value→Sem Value}(hfg:∀x y z u v,f x y=I z→bD C x u→bD C y v→∃q,(g u v).run P w=.ok q w∧bD C z q):
  ∀(ys:List qa) (x z:qa) (u:Value) (vs:List Value),nh f x ys=I z→bD C x u→aM C ys vs→∃q,(vs.foldlM g u).run P w=.ok q w∧bD C z q
 | [],x,z,u,vs,h,hx,hy=>by
  cases hy
  simp[nh]at h;subst h
  exact⟨u,rfl,hx⟩
 |y::ys,x,z,u,vs,h,hx,hy=>by
  cases hy with
  |cons _ _ v vs hy hr=>
   simp only[nh]at h
   split at h
   ·rename_i z1 kY
    obtain⟨q,hq,rq⟩:=hfg x y z1 u v kY hx hy
    obtain⟨q2,hq2,rq2⟩:=Si hfg ys z1 z q vs h rq hr
    exact⟨q2,by simp[List.foldlM_cons,hq,hq2],rq2⟩
   ·cases h
theorem jcc {c:Call}{fq:List qh}{p v:qa}{ps:List qa}{mx:Bool}(he:aW C env a.tmps)(ho:o.op=.call c)(dx:c.callee=.builtin (if mx then .max else .min))(h1:oJ c.args.toList=I fq)(e1:fC env fq=I (p::ps))
  (hv:nh (if mx then max2 else min2) p ps=I v):Val P C a o w v:=by
 have r1:=C8 he h1 e1
 have dM:(c.args.map a.eval).toList=c.args.toList.map a.eval:=by simp
 cases mx
 ·generalize hl:c.args.toList.map a.eval=l at r1
  cases r1 with
  |cons _ _ u us hu gy=>
   obtain⟨q,hq,rq⟩:=Si (P:=P) (w:=w) (C:=C) (f:=min2) (g:=Builtin.min2) (fun x y z u v h hx hy=>by
    unfold min2 at h
    split at h<;>first|cases h|skip
    rename_i k n k' m
    by_cases hk:k=k'
    ·subst hk;simp at h;subst h
     obtain rfl:=hx.bF
     obtain rfl:=hy.bF
     exact⟨_,rfl,.int _ _⟩
    ·simp[hk]at h) ps p v u us (by simpa using hv) hu gy
   refine⟨q,?_,rq⟩
   simp only[E6,if_false]at dx
   simp[execOp,ho,resolve,dx,invoke,builtin,Builtin.min_,hl,hq]
 ·generalize hl:c.args.toList.map a.eval=l at r1
  cases r1 with
  |cons _ _ u us hu gy=>
   obtain⟨q,hq,rq⟩:=Si (P:=P) (w:=w) (C:=C) (f:=max2) (g:=Builtin.max2) (fun x y z u v h hx hy=>by
    unfold max2 at h
    split at h<;>first|cases h|skip
    rename_i k n k' m
    by_cases hk:k=k'
    ·subst hk;simp at h;subst h
     obtain rfl:=hx.bF
     obtain rfl:=hy.bF
     exact⟨_,rfl,.int _ _⟩
    ·simp[hk]at h) ps p v u us (by simpa using hv) hu gy
   refine⟨q,?_,rq⟩
   simp only[if_true]at dx
   simp[execOp,ho,resolve,dx,invoke,builtin,Builtin.max_,hl,hq]
theorem q5q {x:Operand}{x':qh}{i:Nat}{vs:List qa}{v:qa}(he:aW C env a.tmps)(ho:o.op=.extract x i)(h1:zr x=I x')(e1:zd env x'=I (.aC vs))(hv:vs[i]?=I v):Val P C a o w v:=by
 obtain⟨us,hu,ru⟩:=(zu he h1 e1).nw
 obtain⟨u,h1,h2⟩:=ru.get hv
 exact⟨u,by simp[execOp,ho,hu,Instr.extract,h1],h2⟩
end
section
variable {P:Program}{C:ay}{w:World}{env:Env}{a:Act}{o:Oper}
theorem yV {x:qa}{v:Value}(h:bD C x v)(hs:x.flat.all ze=G2):aM C x.flat v.cells.toList:=by
 cases h<;>first
  |(simp only[qa.flat,Value.cells];exact .cons _ _ _ _ (by constructor<;>assumption) .nil)
  |skip
 ·simpa[qa.flat,Value.cells]
 all_goals first|done|exact absurd hs (by simp[qa.flat,ze])|skip
theorem qz7 (off:Nat):∀(l:List Value) (k:Nat) (cs:Array Value),off+k+l.length≤cs.size →
  ((l.zipIdx k).foldl (fun cs (x:Value×Nat)=>cs.setIfInBounds (off+x.2) x.1) cs).toList=cs.toList.take (off+k)++l++cs.toList.drop (off+k+l.length)
 | [],k,cs,_=>by simp
 |v::l,k,cs,h=>by
  simp only[List.zipIdx_cons,List.foldl_cons]
  simp at h
  rw[qz7 off l (k+1) (cs.setIfInBounds (off+k) v) (by simp;omega)]
  have aX:off+k<cs.toList.length:=by simp;omega
  rw[Array.toList_setIfInBounds]
  have e1:(cs.toList.set (off+k) v).take (off+(k+1))=cs.toList.take (off+k)++[v]:=by
   rw[←Mm,List.take_succ_eq_append_getElem (by simpa using aX),List.take_set,List.set_eq_of_length_le (by simp;omega),List.getElem_set_self]
  have e2:(cs.toList.set (off+k) v).drop (off+(k+1)+l.length)=cs.toList.drop (off+k+(v::l).length):=by
   rw[List.drop_set_of_lt (by omega)]
   congr 1
   simp;omega
  rw[e1,e2]
  simp
inductive jj (C:ay)(place:Nat→Option (Nat×Nat)):List (Nat×Value)→List (Nat×List qa)→Prop where
 |nil:jj C place [] []
 |cons (i:Nat) (v:Value) (off:Nat) (vs:List qa) (ps:List (Nat×Value)) (qs:List (Nat×List qa)) (h1:place i=I (off,vs.length)) (h2:aM C vs v.cells.toList) (h:jj C place ps qs):jj C place ((i,v)::ps) ((off,vs)::qs)
theorem Mh {place:Nat→Option (Nat×Nat)}:∀(ps:List (Nat×Value)) (qs:List (Nat×List qa)) (xs ys:List qa) (cs:Array Value),aM C xs cs.toList→iU xs qs=I ys →
  jj C place ps qs →
  ∃ds,Instr.fill place cs ps=I ds∧aM C ys ds.toList
 | [],qs,xs,ys,cs,hx,hf,hp=>by
  cases hp
  simp[iU]at hf
  subst hf
  exact⟨cs,rfl,hx⟩
 |_::ps,qs,xs,ys,cs,hx,hf,hp=>by
  cases hp with
  |cons i v off vs _ qs EL hr htl=>
   simp only[iU]at hf
   cases hb:Ha (off+vs.length) xs.length with
   |false=>simp[hb]at hf
   |true=>
    simp only[hb,cT]at hf
    have hle:=E1 hb
    have hZ:=hx.length
    have pC:=hr.length
    simp at hZ pC
    have pE:=qz7 off v.cells.toList 0 cs (by simp;omega)
    have hz:v.cells.zipIdx.foldl (fun cs (x:Value×Nat)=>cs.setIfInBounds (off+x.2) x.1) cs=(v.cells.toList.zipIdx 0).foldl (fun cs (x:Value×Nat)=>cs.setIfInBounds (off+x.2) x.1) cs:=by
     rw[←Array.foldl_toList,Array.toList_zipIdx]
    obtain⟨ds,h1,h2⟩:=Mh (place:=place) ps qs _ ys (v.cells.zipIdx.foldl (fun cs (x:Value×Nat)=>cs.setIfInBounds (off+x.2) x.1) cs) (by
     rw[hz,pE]
     simp only[Nat.add_zero,Array.length_toList,pC]
     exact aM.append (aM.append (hx.take off) hr) (hx.drop _)) hf htl
    refine⟨ds,?_,h2⟩
    simp only[Instr.fill,EL]
    rw[if_neg (by simp;omega)]
    exact h1
theorem Sj {place:Nat→Option (Nat×Nat)}(he:aW C env a.tmps):∀(ps:List (Nat×Operand)) (ft:List (Nat×Nat×qh)) (qs:List (Nat×List qa)),wz P place ps=I ft→kP env ft=I qs →
  jj C place (ps.map fun x=>(x.1,a.eval x.2)) qs
 | [],ft,qs,hc,hv=>by
  simp[wz]at hc;subst hc
  simp[kP]at hv;subst hv
  exact .nil
 |(i,x)::ps,ft,qs,hc,hv=>by
  simp only[wz]at hc
  split at hc
  ·rename_i off n y r EL hy hr
   cases hc
   simp only[kP]at hv
   split at hv
   ·rename_i v pB
    cases hb:(Nat.beq v.flat.length n&&v.flat.all ze)with
    |false=>simp[hb]at hv
    |true=>
     simp only[hb,cT]at hv
     simp only[Hb]at hb
     split at hv
     ·rename_i r' iW
      cases hv
      have hl:=Gq hb.1
      exact .cons _ _ _ _ _ _ (by rw[EL,hl]) (yV (zu he hy pB) hb.2) (Sj he ps r r' hr iW)
     ·cases hv
   ·cases hv
  ·cases hc
theorem qz6 {t:TypeId}{z:List qa}(h:ef P t=I z)(w:World):∃v,(zeroValue t).run P w=.ok v w∧aM C z v.cells.toList∧∃i,P.info? t=I i∧i.zero=I v:=by
 unfold ef at h
 split at h
 ·rename_i i hi
  split at h
  ·rename_i v hv
   exact⟨v,by simp[zeroValue,typeInfo,hi,hv],L9 C h,i,hi,hv⟩
  ·cases h
 ·cases h
theorem qt3 {fs:Array Field}(w:World):∀(l:List Field),(∀f∈l,(yg P f.type).isSome)→(l.mapM fun(f:Field)=>(do pure (f.offset,←sizeOf f.type):Sem (Nat×Nat))).run P w=.ok (l.map fun f=>(f.offset,(yg P f.type).getD 0)) w
 | [],_=>rfl
 |f::l,h=>by
  obtain⟨n,hn⟩:=Gm.1 (h f (by simp))
  simp only[List.mapM_cons,Sem.run_bind,iJ hn,Result.andThen_ok,Sem.run_pure,qt3 (fs:=fs) w l (fun g hg=>h g (by simp[hg])),Mn,hn,Option.getD_some]
theorem qya {t:TypeId}{ps:Array (Nat×Operand)}{fs:Array Field}{z:List qa}{ft:List (Nat×Nat×qh)}{qs:List (Nat×List qa)}{cs:List qa}(he:aW C env a.tmps)(ho:o.op=.build t ps)(ht:P.underlying t=I (.struct fs))(hz:ef P t=I z)
  (hall:∀f∈fs.toList,(yg P f.type).isSome) (lP:wz P (fun i=>match fs[i]? with|some f=>(yg P f.type).map fun n=>(f.offset,n)|none=>E4) ps.toList=I ft) (hq:kP env ft=I qs) (hf:iU z qs=I cs):Val P C a o w (.agg cs):=by
 obtain⟨zv,kG,cw,_⟩:=qz6 (C:=C) hz w
 have hm:=qt3 (P:=P) (fs:=fs) w fs.toList hall
 have tW:=Sj (P:=P) he ps.toList ft qs lP hq
 have yW:(fun(i:Nat)=>match fs[i]? with|some f=>(yg P f.type).map fun n=>(f.offset,n)|none=>E4)=fun(i:Nat)=>((fs.toList.map fun f=>(f.offset,(yg P f.type).getD 0)).toArray)[i]?:=by
  funext i
  have hm:∀f,fs[i]?=I f→f∈fs.toList:=fun f h=>by rw[Array.mem_toList_iff];exact Array.mem_of_getElem? h
  obtain⟨l⟩:=fs
  simp only[Gp,List.getElem?_map]at hm ⊢
  cases h:l[i]? with
  |none=>rfl
  |some f=>
   obtain⟨n,hn⟩:=Gm.1 (hall f (hm f h))
   simp[hn]
 rw[yW]at tW
 obtain⟨ds,hd,hr⟩:=Mh (ps.toList.map fun x=>(x.1,a.eval x.2)) qs z cs zv.cells cw hf tW
 refine⟨.agg ds,?_,.agg cs ds.toList hr⟩
 have la:(fs.mapM fun(f:Field)=>(do pure (f.offset,←sizeOf f.type):Sem (Nat×Nat))).run P w=.ok ((fs.toList.map fun f=>(f.offset,(yg P f.type).getD 0)).toArray) w:=by
  rw[Array.mapM_eq_mapM_toList]
  simp only[Sem.run_map]
  rw[hm]
  rfl
 have tX:(ps.map fun(x:Nat×Operand)=>(x.1,a.eval x.2)).toList=ps.toList.map fun x=>(x.1,a.eval x.2):=by simp
 simp only[execOp,ho,Instr.build,Sem.run_bind,kG,Result.andThen_ok,run_underlying ht,la,tX,hd,Sem.run_pure]
theorem qzf {t e:TypeId}{ps:Array (Nat×Operand)}{len n:Nat}{z:List qa}{ft:List (Nat×Nat×qh)}{qs:List (Nat×List qa)}{cs:List qa}(he:aW C env a.tmps)(ho:o.op=.build t ps)(ht:P.underlying t=I (.array len e))(hz:ef P t=I z)
  (hn:yg P e=I n) (lP:wz P (fun i=>I (i*n,n)) ps.toList=I ft) (hq:kP env ft=I qs) (hf:iU z qs=I cs):Val P C a o w (.agg cs):=by
 obtain⟨zv,kG,cw,_⟩:=qz6 (C:=C) hz w
 have tW:=Sj (P:=P) he ps.toList ft qs lP hq
 obtain⟨ds,hd,hr⟩:=Mh (ps.toList.map fun x=>(x.1,a.eval x.2)) qs z cs zv.cells cw hf tW
 refine⟨.agg ds,?_,.agg cs ds.toList hr⟩
 have tX:(ps.map fun(x:Nat×Operand)=>(x.1,a.eval x.2)).toList=ps.toList.map fun x=>(x.1,a.eval x.2):=by simp
 simp only[execOp,ho,Instr.build,Sem.run_bind,kG,Result.andThen_ok,run_underlying ht,iJ hn,tX,hd,Sem.run_pure]
theorem qpx {sz:Nat}(he:aW C env a.tmps):∀(ps:List (Nat×Operand)) (ft:List (Nat×qh)) (qs:List (Nat×qa)),wA ps=I ft→iA env sz ft=I qs →
  jj C (fun i=>I (i*sz,sz)) (ps.map fun x=>(x.1,a.eval x.2)) (qs.map fun x=>(x.1*sz,x.2.flat))∧∀q∈qs,q.2.flat.length=sz
 | [],ft,qs,hc,hv=>by
  simp[wA]at hc;subst hc
  simp[iA]at hv;subst hv
  exact⟨.nil,by simp⟩
 |(i,x)::ps,ft,qs,hc,hv=>by
  simp only[wA]at hc
  split at hc
  ·rename_i y r hy hr
   cases hc
   simp only[iA]at hv
   split at hv
   ·rename_i v pB
    cases hb:(Nat.beq v.flat.length sz&&v.flat.all ze)with
    |false=>simp[hb]at hv
    |true=>
     simp only[hb,cT]at hv
     simp only[Hb]at hb
     split at hv
     ·rename_i r' iW
      cases hv
      have hl:=Gq hb.1
      obtain⟨h1,h2⟩:=qpx he ps r r' hr iW
      refine⟨.cons _ _ _ _ _ _ (by rw[hl]) (yV (zu he hy pB) hb.2) h1,?_⟩
      intro q hq
      rcases List.mem_cons.1 hq with rfl|hq
      ·exact hl
      ·exact h2 q hq
     ·cases hv
   ·cases hv
  ·cases hc
theorem qt2 {sz:Nat}:∀(xs:List qa) (i:Nat) (v:qa),(∀x∈xs,x.flat.length=sz)→v.flat.length=sz→i<xs.length →
  (xs.set i v).flatMap qa.flat=(xs.flatMap qa.flat).take (i*sz)++v.flat++(xs.flatMap qa.flat).drop (i*sz+sz)
 | [],i,v,_,_,h=>by simp at h
 |x::xs,0,v,hl,hv,_=>by
  simp only[List.set_cons_zero,Gl,Nat.zero_mul,List.take_zero,List.nil_append,Nat.zero_add]
  rw[List.drop_append_of_le_length (by rw[hl x (by simp)];exact E3 _),En (by rw[hl x (by simp)];exact E3 _)]
  simp
 |x::xs,i+1,v,hl,hv,h=>by
  simp only[List.set_cons_succ,Gl]
  rw[qt2 xs i v (fun y hy=>hl y (by simp[hy])) hv (by simpa using h)]
  have hx:=hl x (by simp)
  have e1:(i+1)*sz=x.flat.length+i*sz:=by rw[hx,E2];omega
  have t1:List.take (x.flat.length+i*sz) (x.flat++xs.flatMap qa.flat)=x.flat++(xs.flatMap qa.flat).take (i*sz):=List.take_length_add_append _
  have t2:List.drop (x.flat.length+i*sz+sz) (x.flat++xs.flatMap qa.flat)=(xs.flatMap qa.flat).drop (i*sz+sz):=by
   rw[Mm];exact List.drop_length_add_append _
  rw[e1,t1,t2]
  simp
theorem lb {sz:Nat}:∀(xs:List qa),(∀x∈xs,x.flat.length=sz)→(xs.flatMap qa.flat).length=xs.length*sz
 | [],_=>by simp
 |x::xs,h=>by
  simp only[Gl,List.length_append,List.length_cons]
  rw[lb xs (fun y hy=>h y (by simp[hy])),h x (by simp),E2];omega
theorem qxh {sz:Nat}:∀(qs:List (Nat×qa)) (xs ys:List qa),kQ xs qs=I ys→(∀x∈xs,x.flat.length=sz)→(∀q∈qs,q.2.flat.length=sz) →
  iU (xs.flatMap qa.flat) (qs.map fun x=>(x.1*sz,x.2.flat))=I (ys.flatMap qa.flat)∧(∀y∈ys,y.flat.length=sz)∧ys.length=xs.length
 | [],xs,ys,h,hx,_=>by simp[kQ]at h;subst h;exact⟨rfl,hx,rfl⟩
 |(i,v)::qs,xs,ys,h,hx,hq=>by
  simp only[kQ]at h
  cases hb:Nat.blt i xs.length with
  |false=>simp[hb]at h
  |true=>
   simp only[hb,cT]at h
   have aX:i<xs.length:=by have:=E1 hb;omega
   have hv:=hq (i,v) (by simp)
   obtain⟨h1,h2,h3⟩:=qxh qs (xs.set i v) ys h (fun y hy=>by
    rcases List.mem_or_eq_of_mem_set hy with h|rfl
    ·exact hx y h
    ·exact hv) (fun q h=>hq q (by simp[h]))
   refine⟨?_,h2,by simpa using h3⟩
   have hl:=lb xs hx
   have hle:i*sz+sz≤xs.length*sz:=by rw[←E2];exact Nat.mul_le_mul_right _ aX
   simp only[Mn,iU]
   rw[show Ha (i*sz+v.flat.length) (xs.flatMap qa.flat).length=G2 from by rw[Nat.ble_eq];simp only at hv;omega]
   simp only[cT]
   rw[qt2 xs i v hx hv aX]at h1
   simp only at hv
   rw[hv]
   exact h1
end
end Go.Abs
