/- One operation. -/
import Derived.Test.YtfopaakmgogpiaaGreatDoorAbsA
import Derived.WalkSpells
import Derived.Laws.Cover3
set_option linter.unusedVariables false
set_option linter.unusedSimpArgs false
open Option renaming some→I,none→Eu,isSome_iff_exists→Gh,map_some→Gv
open List renaming drop_eq_nil_of_le→Eh,flatMap_cons→Gf,getElem?_toArray→Gk,replicate→Gw,map_cons→G2
open Nat renaming le_of_ble_eq_true→Ek,succ_mul→En,le_refl→Ep,eq_of_beq_eq_true→Gl,ble→Gn,add_assoc→Gy
open Bool renaming false_eq_true→Ev,false→Ga,true→Gm,and_eq_true→Gr,not_true→Gx,xor→G3
open Array renaming ext'→Gi
namespace Go.Abs
def km (P:Program)(C0:aA)(w0:World)(C:aA)(tmps:Array Value)(d:Loc)(env:Env)(res:qo)(v:Value)(w':World):Prop:=
 ∃C' ω',C.le C'∧av P C' ω' w0 C0 res.heap w'∧ak C' ω' w' w0.heap.size (gq env res.strip) tmps∧bG C' res.v v∧(res.own=Gm→aB C' ω' w' w0.heap.size d res.v v)
theorem qxt (C:aA){v x}(h:Ed v=I x):bG C x v:=by
 unfold Ed at h
 split at h<;>first|cases h|skip
 ·exact .bool _
 ·exact .int _ _
 ·exact .str _
 ·exact .iV _
 ·exact .bN
 ·exact .bM
 ·exact .bX
theorem NF (C:aA):∀ {vs:List Value} {xs:List qa},vP vs=I xs→aK C xs vs
 | [],xs,h=>by simp[vP]at h;subst h;exact .nil
 |v::vs,xs,h=>by
  simp only[vP]at h
  split at h
  ·rename_i x hx
   split at h
   ·rename_i ys mQ
    cases h
    exact .cons _ _ _ _ (qxt C hx) (NF C mQ)
   ·cases h
  ·cases h
theorem qus (C:aA){v x}(h:ofValue v=I x):bG C x v:=by
 unfold ofValue at h
 split at h
 ·rename_i cs
  split at h
  ·rename_i xs hx
   cases h
   exact .agg _ _ (NF C hx)
  ·cases h
 ·exact qxt C h
section
variable {P:Program}{C C0:aA}{ω:Nat→Option Loc}{w w0:World}{hp:za}{env:Env}{a:Act}{B:Nat}
theorem zq {x y v}(he:aX C env a.tmps)(hc:zp x=I y)(hv:zc env y=I v):bG C v (a.eval x):=by
 cases x with
 |tmp t=>
  simp only[zp]at hc
  cases hc
  simp only[zc]at hv
  split at hv
  ·rename_i x hx
   cases hv
   obtain⟨u,h1,h2⟩:=he t x hx
   have:a.eval (.tmp t)=u:=by simp[Act.eval,Array.getD_eq_getD_getElem?,h1]
   rw[this];exact h2
  ·cases hv
 |const u=>
  simp only[zp]at hc
  split at hc
  ·rename_i z hz
   cases hc
   simp only[zc]at hv
   cases hv
   exact qus C hz
  ·cases hc
 |func f=>
  simp only[zp]at hc
  cases hc
  simp only[zc]at hv
  cases hv
  exact .fn (.func f) (.func f) [] [] [] [] rfl .nil .nil
 |global g=>simp[zp]at hc
theorem El (he:aX C env a.tmps):∀ {xs:List Operand} {ys:List qp} {vs:List qa},pn xs=I ys→fF env ys=I vs→aK C vs (xs.map a.eval)
 | [],ys,vs,hc,hv=>by simp[pn]at hc;subst hc;simp[fF]at hv;subst hv;exact .nil
 |x::xs,ys,vs,hc,hv=>by
  simp only[pn]at hc
  split at hc
  ·rename_i y hy
   split at hc
   ·rename_i zs qB
    cases hc
    simp only[fF]at hv
    split at hv
    ·rename_i v nO
     split at hv
     ·rename_i us gw
      cases hv
      exact .cons _ _ _ _ (zq he hy nO) (El he qB gw)
     ·cases hv
    ·cases hv
   ·cases hc
  ·cases hc
theorem bG.cS {b v}(h:bG C (.bool b) v):v=.bool b:=by cases h;rfl
theorem bG.bJ {k n v}(h:bG C (.int k n) v):v=.int k n:=by cases h;rfl
theorem bG.bW {s v}(h:bG C (.str s) v):v=.string ⟨⟨s⟩⟩:=by cases h;rfl
theorem bG.cU {b o v}(h:bG C (.ptr b o) v):∃r,C.β b=I r∧v=.pointer (I ⟨r,o,Eu⟩):=by cases h;exact⟨_,‹_›,rfl⟩
theorem bG.et {x v}(h:bG C (.ah x) v):∃r o,v=.pointer (I ⟨r,o,Eu⟩)∧bZ C r x.flat o:=by cases h;exact⟨_,_,rfl,‹_›⟩
theorem bG.dX {cs v}(h:bG C (.agg cs) v):∃vs,v=.agg ⟨vs⟩∧aK C cs vs:=by cases h;exact⟨_,rfl,‹_›⟩
theorem bG.nP {cs v}(h:bG C (.ay cs) v):∃vs,v=.tuple ⟨vs⟩∧aK C cs vs:=by cases h;exact⟨_,rfl,‹_›⟩
theorem bG.eu {b o len v}(h:bG C (.ms b o len) v):∃r cap,C.β b=I r∧len≤cap∧v=.slice (I ⟨r,o,Eu⟩) len cap:=by cases h;exact⟨_,_,‹_›,‹_›,rfl⟩
theorem bG.cG {n sz xs v}(h:bG C (.list n sz xs) v):
  (n=Gm∧xs=[]∧v=.slice Eu 0 0)∨(n=Ga∧∃r o cap,v=.slice (I ⟨r,o,Eu⟩) xs.length cap∧xs.length≤cap∧bg C r sz xs o)∨(n=Ga∧xs=[]∧∃a,a.spot≠Eu∧v=.slice (I a) 0 0):=by
 cases h
 ·exact .inl ⟨rfl,rfl,rfl⟩
 ·exact .inr (.inl ⟨rfl,_,_,_,rfl,‹_›,‹_›⟩)
 ·exact .inr (.inr ⟨rfl,rfl,_,‹_›,rfl⟩)
theorem bG.len {n sz xs v}(h:bG C (.list n sz xs) v):∃b cap,v=.slice b xs.length cap:=by
 rcases h.cG with⟨rfl,rfl,rfl⟩|⟨rfl,r,o,cap,rfl,_,_⟩|⟨rfl,rfl,a,_,rfl⟩
 ·exact⟨Eu,0,rfl⟩
 ·exact⟨_,_,rfl⟩
 ·exact⟨_,_,rfl⟩
theorem add_lit (r o n:Nat):(⟨r,o,Eu⟩:Addr).add n=⟨r,o+n,Eu⟩:=by unfold Addr.add;split<;>simp_all
theorem Ag (k:IntKind)(n:Int):j6 k n=k.wrap n:=by
 unfold j6
 cases h:pW k n with
 |false=>rfl
 |true=>
  simp only[cT]
  symm
  have key:∀m:Nat,IntKind.min k≤n→n≤IntKind.max k→k.wrap n=n:=by
   intro _ h1 h2
   unfold IntKind.wrap
   cases k<;>simp[IntKind.bits,IntKind.signed,IntKind.min,IntKind.max]at *<;>omega
  refine key 0 ?_ ?_
  ·cases k<;>cases n<;>simp[pW,IntKind.min,IntKind.signed,IntKind.bits]at *<;>omega
  ·cases k<;>cases n<;>simp[pW,IntKind.max,IntKind.signed,IntKind.bits]at *<;>omega
theorem Em {t:TypeId}{b}(h:fh P t=I b)(w:World):(isAgg t).run P w=.ok b w:=by
 unfold fh at h
 unfold isAgg
 cases hu:P.underlying t with
 |none=>simp[hu]at h
 |some d=>rw[hu]at h;simp[run_underlying hu];cases d<;>simp at h<;>subst h<;>rfl
theorem iX {t:TypeId}{n}(h:yf P t=I n)(w:World):(sizeOf t).run P w=.ok n w:=by
 unfold yf at h
 cases hi:P.info? t with
 |none=>simp[hi]at h
 |some i=>simp[hi]at h;simp[sizeOf,typeInfo,hi,h]
theorem q53 {t:TypeId}{ag n off cs vs x}(hg:fh P t=I ag)(hn:yf P t=I n)(hp:part ag cs off n=I x)(hr:aK C cs vs)(w:World):
  ∃v,(Go.part t ⟨vs⟩ off).run P w=.ok v w∧bG C x v:=by
 unfold part at hp
 cases ag with
 |true=>
  simp only[cT]at hp
  cases hb:Gn (off+n) cs.length with
  |false=>simp[hb]at hp
  |true=>
   simp[hb]at hp
   subst hp
   refine⟨.agg ⟨(vs.drop off).take n⟩,?_,.agg _ _ ((hr.drop off).take n)⟩
   simp[Go.part,Em hg,iX hn]
 |false=>
  simp only[cond_false]at hp
  obtain⟨v,h1,h2⟩:=hr.get hp
  exact⟨v,by simp[Go.part,Em hg,h1],h2⟩
theorem qr7 (a:List UInt8):(⟨⟨a⟩⟩:ByteArray).toList=a:=by
 rw[ByteArray.toList_eq]
end
theorem TW:∀ {ks:List Kd} {xs ys:List qa} (Gb:List Kd) (fA nQ:List qa),xs.length=ks.length→ys.length=ks.length →
  gH (ks++Gb) (xs++fA) (ys++nQ)=match gH ks xs ys with|some Gm=>gH Gb fA nQ|r=>r
 | [],[],[],Gb,fA,nQ,_,_=>by simp[gH]
 |k::ks,x::xs,y::ys,Gb,fA,nQ,h,h'=>by
  simp only[List.cons_append,gH]
  cases he:l4 k x y with
  |none=>simp
  |some b=>cases b with
   |false=>simp
   |true=>simpa using TW Gb fA nQ (by simpa using h) (by simpa using h')
 | [],_::_,_,_,_,_,h,_=>by simp at h
 | [],[],_::_,_,_,_,_,h=>by simp at h
 |_::_,[],_,_,_,_,h,_=>by simp at h
 |_::_,_::_,[],_,_,_,_,h=>by simp at h
def uI (ag:Bool)(us:List Value):Value:=if ag then .agg ⟨us⟩else us.headD undef
def NG:TypeDesc→Bool
 | .struct _=>Gm
 | .array _ _=>Gm
 |_=>Ga
section
variable {P:Program}{C:aA}
theorem jc2 {t:TypeId}{d:TypeDesc}(h:P.underlying t=I d):fh P t=I (NG d):=by
 unfold fh
 rw[h]
 cases d<;>rfl
theorem NH {t:TypeId}{ag n off us}(hg:fh P t=I ag)(hn:yf P t=I n)(h1:ag=Ga→n=1)(hl:off+n≤us.length)(w:World):
  (Go.part t ⟨us⟩ off).run P w=.ok (uI ag ((us.drop off).take n)) w:=by
 cases ag with
 |true=>simp[Go.part,Em hg,iX hn,uI]
 |false=>
  obtain rfl:=h1 rfl
  have bh:off<us.length:=by omega
  simp only[Go.part,Sem.run_bind,Em hg,Result.andThen_ok,uI,Ev,if_false]
  have e:(⟨us⟩:Array Value)[off]?=I us[off]:=by
   show(List.toArray us)[off]?=_
   rw[Gk,List.getElem?_eq_getElem bh]
  rw[e,List.drop_eq_getElem_cons bh]
  rfl
def TX (P:Program)(C:aA)(n:Nat)(t:TypeId)(ks:List Kd):Prop:=
 ∃ag,fh P t=I ag∧yf P t=I ks.length∧(ag=Ga→ks.length=1)∧∀d,n≤d→∀xs ys us vs b w,aK C xs us→aK C ys vs→xs.length=ks.length→ys.length=ks.length→gH ks xs ys=I b →
  (Op.equalIn d t (uI ag us) (uI ag vs)).run P w=.ok b w
theorem NI {α:Type}(xs:List α)(off n:Nat):xs.drop off=(xs.drop off).take n++xs.drop (off+n):=by
 rw[←List.drop_drop];exact(List.take_append_drop _ _).symm
theorem quw {n d}(hd:n≤d):∀(fs:List Field) (off:Nat) (ks:List Kd) (xs ys:List qa) (us vs:List Value) (b:Bool) (w:World),
  F3 (uH P n) off fs=I ks →
  (∀f∈fs,∀ks,uH P n f.type=I ks→TX P C n f.type ks) →
  aK C xs us→aK C ys vs→xs.length=off+ks.length→ys.length=off+ks.length→gH ks (xs.drop off) (ys.drop off)=I b →
  (Op.eqFields d ⟨us⟩ ⟨vs⟩ fs).run P w=.ok b w
 | [],off,ks,xs,ys,us,vs,b,w,hf,_,hx,hy,mR,ou,he=>by
  simp[F3]at hf
  subst hf
  rw[Eh (by simp at mR;omega),Eh (by simp at ou;omega)]at he
  simp[gH]at he
  subst he
  simp[Op.eqFields]
 |f::fs,off,ks,xs,ys,us,vs,b,w,hf,di,hx,hy,mR,ou,he=>by
  simp only[F3]at hf
  split at hf
  ·rename_i hc
   simp at hc
   obtain⟨Gc,vR⟩:=hc
   split at hf
   ·rename_i k1 fH
    split at hf
    ·rename_i k2 cV
     cases hf
     obtain⟨ag,cK,cB,h1,heq⟩:=di f (by simp) k1 fH
     have TY:=hx.length
     have vS:=hy.length
     simp at mR ou
     have p1:=NH (P:=P) (us:=us) (off:=f.offset) cK cB h1 (by omega) w
     have p2:=NH (P:=P) (us:=vs) (off:=f.offset) cK cB h1 (by omega) w
     rw[NI xs off k1.length,NI ys off k1.length,TW _ _ _ (by simp;omega) (by simp;omega)]at he
     simp only[Op.eqFields,ne_eq,Gc,not_false_eq_true,if_true,Sem.run_bind,p1,p2,Result.andThen_ok]
     rw[vR]
     cases hb:gH k1 ((xs.drop off).take k1.length) ((ys.drop off).take k1.length)with
     |none=>rw[hb]at he;cases he
     |some b1=>
      rw[hb]at he
      rw[heq d hd _ _ _ _ b1 w ((hx.drop off).take _) ((hy.drop off).take _) (by simp;omega) (by simp;omega) hb]
      cases b1 with
      |false=>simp at he;subst he;simp
      |true=>
       simp only[Result.andThen_ok,Gx,Ev,if_false]
       exact quw hd fs (off+k1.length) k2 xs ys us vs b w cV (fun g hg=>di g (by simp[hg])) hx hy (by omega) (by omega) he
    ·cases hf
   ·cases hf
  ·cases hf
theorem qxz {n d}(hd:n≤d){e:TypeId}{ag k1}(cK:fh P e=I ag)(cB:yf P e=I k1.length)(h1:ag=Ga→k1.length=1)
  (heq:∀d,n≤d→∀xs ys us vs b w,aK C xs us→aK C ys vs→xs.length=k1.length→ys.length=k1.length→gH k1 xs ys=I b→(Op.equalIn d e (uI ag us) (uI ag vs)).run P w=.ok b w):
  ∀(len i:Nat) (xs ys:List qa) (us vs:List Value) (b:Bool) (w:World),
  aK C xs us→aK C ys vs→xs.length=i*k1.length+len*k1.length→ys.length=i*k1.length+len*k1.length→gH (Gw len k1).flatten (xs.drop (i*k1.length)) (ys.drop (i*k1.length))=I b →
  (Op.eqItems d e k1.length ⟨us⟩ ⟨vs⟩ (List.range' i len)).run P w=.ok b w
 |0,i,xs,ys,us,vs,b,w,hx,hy,mR,ou,he=>by
  rw[Eh (by simp at mR;omega),Eh (by simp at ou;omega)]at he
  simp[gH]at he
  subst he
  simp[Op.eqItems]
 |len+1,i,xs,ys,us,vs,b,w,hx,hy,mR,ou,he=>by
  have TY:=hx.length
  have vS:=hy.length
  rw[En]at mR ou
  have p1:=NH (P:=P) (us:=us) (off:=i*k1.length) cK cB h1 (by omega) w
  have p2:=NH (P:=P) (us:=vs) (off:=i*k1.length) cK cB h1 (by omega) w
  rw[List.replicate_succ,List.flatten_cons,NI xs (i*k1.length) k1.length,NI ys (i*k1.length) k1.length,TW _ _ _ (by simp;omega) (by simp;omega)]at he
  simp only[List.range'_succ,Op.eqItems,Sem.run_bind,p1,p2,Result.andThen_ok]
  cases hb:gH k1 ((xs.drop (i*k1.length)).take k1.length) ((ys.drop (i*k1.length)).take k1.length)with
  |none=>rw[hb]at he;cases he
  |some b1=>
   rw[hb]at he
   rw[heq d hd _ _ _ _ b1 w ((hx.drop _).take _) ((hy.drop _).take _) (by simp;omega) (by simp;omega) hb]
   cases b1 with
   |false=>simp at he;subst he;simp
   |true=>
    simp only[Result.andThen_ok,Gx,Ev,if_false]
    refine qxz hd cK cB h1 heq len (i+1) xs ys us vs b w hx hy (by rw[mR,En];omega) (by rw[ou,En];omega) ?_
    rw[En];exact he
theorem q1u {t:TypeId}{n}(h:yf P t=I n):P.cellsOf t=n:=by
 unfold yf at h
 unfold Program.cellsOf
 rw[h];rfl
theorem q1v {t:TypeId}{n}(h:yf P t=I n):∃i,P.info? t=I i∧i.size=n:=by
 unfold yf at h
 cases hi:P.info? t with
 |none=>simp[hi]at h
 |some i=>exact⟨i,rfl,by simpa[hi]using h⟩
theorem q6t {k x y b}(h:gH [k] [x] [y]=I b):l4 k x y=I b:=by
 simp only[gH]at h
 split at h<;>simp_all
theorem jeg {xs us}(h:aK C xs us)(hl:xs.length=1):∃x u,xs=[x]∧us=[u]∧bG C x u:=by
 obtain⟨x,rfl⟩:=List.length_eq_one_iff.1 hl
 cases h with
 |cons _ _ u vs hx h=>cases h;exact⟨x,u,rfl,rfl,hx⟩
theorem q4a {k x y b u v}(h:l4 k x y=I b)(hx:bG C x u)(hy:bG C y v):
  match k with
  | .int=>∃kd a c,u=.int kd a∧v=.int kd c∧b=(a == c)
  | .str=>∃a c:List UInt8,u=.string ⟨⟨a⟩⟩∧v=.string ⟨⟨c⟩⟩∧b=(a == c)
  | .bool=>∃a c,u=.bool a∧v=.bool c∧b=(a == c):=by
 unfold l4 at h
 split at h
 ·rename_i k a k' c
  cases hx;cases hy
  by_cases hk:k=k'
  ·subst hk;simp at h;exact⟨_,_,_,rfl,rfl,h.symm⟩
  ·simp[hk]at h
 ·cases hx;cases hy;cases h;exact⟨_,_,rfl,rfl,rfl⟩
 ·cases hx;cases hy;cases h;exact⟨_,_,rfl,rfl,rfl⟩
 ·cases h
theorem q2t {t:TypeId}{k x y b u v}(hk:jZ P t=I k)(h:l4 k x y=I b)(hx:bG C x u)(hy:bG C y v)(d:Nat)(w:World):
  (Op.equalIn (d+1) t u v).run P w=.ok b w:=by
 have hc:=q4a h hx hy
 unfold jZ at hk
 cases hu:P.underlying t with
 |none=>simp[hu]at hk
 |some D=>
  rw[hu]at hk
  cases D<;>simp at hk<;>subst hk<;>simp only[]at hc
  ·obtain⟨a,c,rfl,rfl,rfl⟩:=hc;exact run_equalIn_bool w d t a c hu
  ·obtain⟨kd,a,c,rfl,rfl,rfl⟩:=hc;exact run_equalIn_int w d t kd _ a c hu
  ·obtain⟨a,c,rfl,rfl,rfl⟩:=hc
   rw[run_equalIn_string w d t _ _ hu,qr7,qr7]
theorem T0:∀ (n:Nat) (t:TypeId) (ks:List Kd),uH P n t=I ks→TX P C n t ks
 |0,t,ks,h=>by simp[uH]at h
 |n+1,t,ks,h=>by
  unfold uH at h
  cases hu:P.underlying t with
  |none=>simp[hu]at h
  |some D=>
   rw[hu]at h
   have cK:=jc2 hu
   have scalar:∀k,ks=[k]→yf P t=I 1→jZ P t=I k→NG D=Ga→TX P C (n+1) t ks:=by
    intro k hks hs hk ha
    subst hks
    refine⟨Ga,by rw[cK,ha],hs,fun _=>rfl,?_⟩
    intro d hd xs ys us vs b w hx hy mR ou he
    obtain⟨d,rfl⟩:∃m,d=m+1:=⟨d-1,by omega⟩
    obtain⟨x,u,rfl,rfl,Eo⟩:=jeg hx mR
    obtain⟨y,v,rfl,rfl,NJ⟩:=jeg hy ou
    exact q2t hk (q6t he) Eo NJ d w
   cases D<;>simp only[]at h<;>first|(simp at h;done)|skip
   case int k=>
    split at h<;>first|cases h|skip
    rename_i hs
    exact scalar .int rfl (by simpa using hs) (by simp[jZ,hu]) rfl
   case bool=>
    split at h<;>first|cases h|skip
    rename_i hs
    exact scalar .bool rfl (by simpa using hs) (by simp[jZ,hu]) rfl
   case string=>
    split at h<;>first|cases h|skip
    rename_i hs
    exact scalar .str rfl (by simpa using hs) (by simp[jZ,hu]) rfl
   case array len e=>
    split at h
    ·rename_i k1 fH
     split at h
     ·rename_i hs
      cases h
      obtain⟨ag,T1,cB,h1,heq⟩:=T0 n e k1 fH
      have hlen:(Gw len k1).flatten.length=len*k1.length:=by simp[List.length_flatten]
      refine⟨Gm,by simpa[NG]using cK,by rw[hlen];simpa using hs,(fun h=>by cases h),?_⟩
      intro d hd xs ys us vs b w hx hy mR ou he
      obtain⟨d,rfl⟩:∃m,d=m+1:=⟨d-1,by omega⟩
      obtain⟨i,hi,_⟩:=q1v cB
      simp only[uI,if_true]
      rw[run_equalIn_array w d _ _ hu hi,q1u cB,List.range_eq_range']
      exact qxz (by omega) T1 cB h1 heq len 0 xs ys us vs b w hx hy (by rw[mR,hlen];omega) (by rw[ou,hlen];omega) (by simpa using he)
     ·cases h
    ·cases h
   case struct fs=>
    split at h
    ·rename_i k1 fH
     split at h
     ·rename_i hs
      cases h
      simp at hs
      obtain⟨hso,cB⟩:=hs
      refine⟨Gm,by simpa[NG]using cK,cB,(fun h=>by cases h),?_⟩
      intro d hd xs ys us vs b w hx hy mR ou he
      obtain⟨d,rfl⟩:∃m,d=m+1:=⟨d-1,by omega⟩
      simp only[uI,if_true]
      have hf:P.fieldsOf t=fs:=by simp[Program.fieldsOf,hu]
      rw[run_equalIn_struct w d t _ _ (by rw[hf];exact hu) hso,hf]
      exact quw (n:=n) (by omega) fs.toList 0 _ xs ys us vs b w fH (fun f _ ks hp=>T0 n f.type ks hp) hx hy (by omega) (by omega) (by simpa using he)
     ·cases h
    ·cases h
end
section
variable {P:Program}{C:aA}{w:World}{env:Env}{a:Act}{o:Oper}
def Val (P:Program)(C:aA)(a:Act)(o:Oper)(w:World)(x:qa):Prop:=∃v,(execOp a.eval o).run P w=.ok (.value v) w∧bG C x v
theorem jkc {x y v}(he:aX C env a.tmps)(ho:o.op=.move x∨o.op=.assign x)(hc:zp x=I y)(hv:zc env y=I v):Val P C a o w v:=by
 refine⟨a.eval x,?_,zq he hc hv⟩
 rcases ho with ho|ho<;>simp[execOp,ho]
theorem ji0 {c x y c' x' y' b u v}(he:aX C env a.tmps)(ho:o.op=.pick c x y)(h1:zp c=I c')(h2:zp x=I x')(h3:zp y=I y')
  (e1:zc env c'=I (.bool b)) (e2:zc env x'=I u) (e3:zc env y'=I v):Val P C a o w (bif b then u else v):=by
 have r1:=(zq he h1 e1).cS
 have r2:=zq he h2 e2
 have r3:=zq he h3 e3
 refine⟨if b then a.eval x else a.eval y,by simp[execOp,ho,r1,asBool],?_⟩
 cases b<;>simpa
theorem qr1 {x y v}(he:aX C env a.tmps)(ho:o.op=.nilCheck x)(hc:zp x=I y)(hv:zc env y=I v)
  (hk:(∃b p,v=.ptr b p)∨(∃z,v=.ah z)):Val P C a o w v:=by
 have r:=zq he hc hv
 rcases hk with⟨b,p,rfl⟩|⟨z,rfl⟩
 ·obtain⟨q,_,hq⟩:=r.cU
  exact⟨a.eval x,by simp[execOp,ho,hq],r⟩
 ·obtain⟨q,p,hq,_⟩:=r.et
  exact⟨a.eval x,by simp[execOp,ho,hq],r⟩
theorem T2 (op:BinOp)(k:IntKind)(x y:Int)(t:TypeId)(h1:op≠.shl)(h2:op≠.shr):binOp op t (.int k x) (.int k y)=match op with
  | .add | .sub | .mul=>Op.intArith op k x y
  | .quo | .rem=>Op.intDiv op k x y
  | .and | .or | .xor | .andNot=>Op.intBits op k x y
  |_=>Op.intCmp op x y:=by
 cases op<;>simp at h1 h2<;>simp[binOp]
theorem q9q {op k x y v}(h:oo op k x y=I v)(t:TypeId)(w:World):∃u,(binOp op t (.int k x) (.int k y)).run P w=.ok u w∧bG C v u:=by
 unfold oo at h
 cases op<;>simp only[]at h<;>first|(cases h;done)|skip
 case quo=>
  cases hy:(y == 0)with
  |true=>simp[hy]at h
  |false=>
   simp[hy]at h
   subst h
   have:y≠0:=by simpa using hy
   rw[Ag,T2 _ _ _ _ _ (by simp) (by simp)]
   refine⟨_,?_,.int _ _⟩
   simp[Op.intDiv,this]
 case rem=>
  cases hy:(y == 0)with
  |true=>simp[hy]at h
  |false=>
   simp[hy]at h
   subst h
   have:y≠0:=by simpa using hy
   rw[T2 _ _ _ _ _ (by simp) (by simp)]
   refine⟨_,?_,.int _ _⟩
   simp[Op.intDiv,this]
 all_goals (cases h;rw[T2 _ _ _ _ _ (by simp) (by simp)];try rw[Ag])
 all_goals first
  |exact⟨_,rfl,.int _ _⟩
  |exact⟨_,rfl,.bool _⟩
theorem qrk:∀ (x y:List UInt8),bytesLess x y=Op.bytesLess x y
 |x,[]=>by cases x<;>rfl
 | [],_::_=>rfl
 |a::x,b::y=>by simp only[bytesLess,Op.bytesLess,qrk x y]
theorem q87 {op x y v}(h:F2 op x y=I v)(t:TypeId)(w:World):∃u,(binOp op t (.string ⟨⟨x⟩⟩) (.string ⟨⟨y⟩⟩)).run P w=.ok u w∧bG C v u:=by
 unfold F2 at h
 cases op<;>simp only[]at h<;>first|(cases h;done)|skip
 ·cases hb:Gn (x.length+y.length) 4611686018427387904 with
  |false=>simp[hb]at h
  |true=>
   simp[hb]at h
   subst h
   have hle:x.length+y.length≤4611686018427387904:=Ek hb
   refine⟨.string ⟨⟨x++y⟩⟩,?_,.str _⟩
   have e1:(⟨⟨x⟩⟩:ByteArray).size=x.length:=rfl
   have e2:(⟨⟨y⟩⟩:ByteArray).size=y.length:=rfl
   have e3:(⟨⟨x⟩⟩:ByteArray)++⟨⟨y⟩⟩=⟨⟨x++y⟩⟩:=by
    apply ByteArray.ext
    simp[ByteArray.data_append]
   simp only[binOp,Op.stringOp,e1,e2,e3,IntKind.max,IntKind.signed,IntKind.bits]
   rw[if_neg (by simp;omega)]
   rfl
 all_goals (cases h;refine⟨_,?_,.bool _⟩;simp[binOp,Op.stringOp,qrk])
theorem q83 {op x y v u u'}(h:fq op x y=I v)(hx:bG C x u)(hy:bG C y u')(t:TypeId)(w:World):∃z,(binOp op t u u').run P w=.ok z w∧bG C v z:=by
 unfold fq at h
 split at h
 ·rename_i k a k' b
  obtain rfl:=hx.bJ
  obtain rfl:=hy.bJ
  have hsh:∀(op:BinOp),(op=.shl∨op=.shr)→Nv op k a b=I v→∃z,(binOp op t (.int k a) (.int k' b)).run P w=.ok z w∧bG C v z:=by
   intro op hop h
   unfold Nv at h
   cases hb:decide (b<0)with
   |true=>simp[hb]at h
   |false=>
    have eL:¬b<0:=by simpa using hb
    rcases hop with rfl|rfl<;>simp[hb]at h<;>subst h
    ·rw[Ag]; (refine⟨_,?_,.int _ _⟩;simp[binOp,Op.shift,eL])
    ·(refine⟨_,?_,.int _ _⟩;simp[binOp,Op.shift,eL])
  have hin:op≠.shl→op≠.shr→(bif decide (k=k')then oo op k a b else Eu)=I v→∃z,(binOp op t (.int k a) (.int k' b)).run P w=.ok z w∧bG C v z:=by
   intro _ _ h
   by_cases hk:k=k'
   ·subst hk;simp at h;exact q9q h t w
   ·simp[hk]at h
  cases op<;>simp only[]at h<;>first|exact hsh _ (.inl rfl) h|exact hsh _ (.inr rfl) h|exact hin (by simp) (by simp) h
 ·obtain rfl:=hx.bW
  obtain rfl:=hy.bW
  exact q87 h t w
 ·cases h
theorem q6y (op:BinOp)(t:TypeId)(x y:Operand)(u v:Value)(w:World)(h1:¬(u=.nilIface∧v=.nilIface))(h2:(∀cs,u≠.agg cs)∨P.eqGuardType P.depth t=Ga):(eqGuard op t x y u v).run P w=.ok () w:=by
 unfold eqGuard
 by_cases hop:(!(match op with | .eql | .neq=>Gm|_=>Ga))=Gm
 ·cases op<;>simp_all
 ·cases op<;>simp at hop ⊢
  all_goals (
   split
   ·exact absurd ⟨rfl,rfl⟩ h1
   ·rcases h2 with h2|h2
    ·rename_i cs _ ;exact absurd rfl (h2 cs)
    ·simp[h2]
   ·rfl)
theorem NK {op}{t u:TypeId}{x y p q z}(ho:o.op=.binOp op t x y u)(hx:a.eval x=p)(hy:a.eval y=q)(h1:¬(p=.nilIface∧q=.nilIface))(h2:(∀cs,p≠.agg cs)∨P.eqGuardType P.depth t=Ga)
  (hz:(binOp op t p q).run P w=.ok z w):(execOp a.eval o).run P w=.ok (.value z) w:=by
 have hg:=q6y (P:=P) op t x y p q w h1 h2
 subst hx;subst hy
 simp only[execOp,ho,Sem.run_bind,hg,Result.andThen_ok,hz,Sem.run_pure]
theorem q1q {x v}(h:bG C x v)(hx:x≠.undef)(hy:x≠.any:=by simp):v≠.nilIface:=by
 cases h<;>simp at hx hy ⊢
theorem q1j {op x y v}(h:fq op x y=I v):(x≠.undef∧(∀cs,x≠.agg cs)∧x≠.any):=by
 unfold fq at h
 split at h<;>simp at h ⊢
theorem q6z {x v}(h:bG C x v)(hx:x≠.undef)(ha:∀cs,x≠.agg cs)(hy:x≠.any:=by simp):∀cs,v≠.agg cs:=by
 cases h<;>simp at hx ha hy ⊢
theorem joy {op}{t u:TypeId}{x y x' y' p q v}(he:aX C env a.tmps)(ho:o.op=.binOp op t x y u)(h1:zp x=I x')(h2:zp y=I y')
  (e1:zc env x'=I p) (e2:zc env y'=I q) (hv:fq op p q=I v):Val P C a o w v:=by
 have r1:=zq he h1 e1
 have r2:=zq he h2 e2
 obtain⟨hn,ha,hy⟩:=q1j hv
 obtain⟨z,hz,hr⟩:=q83 (P:=P) hv r1 r2 t w
 refine⟨z,?_,hr⟩
 exact NK ho rfl rfl (fun h=>q1q r1 hn hy h.1) (.inl (q6z r1 hn ha hy)) hz
theorem T3 {neq}{t:TypeId}{u v b}(w:World)(hu:(∀k n,u≠.int k n)∧(∀s,u≠.string s)∧(∀k n,u≠.float k n)∧(∀k n m,u≠.complex k n m))
  (h:(Op.equal t u v).run P w=.ok b w):(binOp (if neq then .neq else .eql) t u v).run P w=.ok (.bool (bif neq then !b else b)) w:=by
 obtain⟨h1,h2,h3,h4⟩:=hu
 cases neq<;>cases u<;>simp_all [binOp]
theorem jnh {op neq}{t u:TypeId}{x y x' y' p q ks b}(he:aX C env a.tmps)(ho:o.op=.binOp op t x y u)(hop:op=if neq then .neq else .eql)
  (h1:zp x=I x') (h2:zp y=I y') (e1:zc env x'=I (.agg p)) (e2:zc env y'=I (.agg q)) (hg:P.eqGuardType P.depth t=Ga) (hk:uH P Ny t=I ks) (cK:fh P t=I Gm)
  (gK:p.length=ks.length) (ov:q.length=ks.length) (hb:gH ks p q=I b):Val P C a o w (.bool (bif neq then !b else b)):=by
 obtain⟨us,hu,ru⟩:=(zq he h1 e1).dX
 obtain⟨vs,hv,rv⟩:=(zq he h2 e2).dX
 obtain⟨ag,ha,_,_,heq⟩:=T0 (C:=C) Ny t ks hk
 rw[cK]at ha;cases ha
 have hq:=heq 10000 (by decide) p q us vs b w ru rv gK ov hb
 simp only[uI,if_true]at hq
 refine⟨_,?_,.bool _⟩
 have qC:=T3 (P:=P) (neq:=neq) (t:=t) (u:=.agg ⟨us⟩) (v:=.agg ⟨vs⟩) (b:=b) w ⟨by simp,by simp,by simp,by simp⟩ hq
 exact NK (hop▸ho) hu hv (by simp) (.inr hg) qC
theorem jn8 {op neq}{t u:TypeId}{x y x' y' p q}(he:aX C env a.tmps)(ho:o.op=.binOp op t x y u)(hop:op=if neq then .neq else .eql)
  (h1:zp x=I x') (h2:zp y=I y') (e1:zc env x'=I (.bool p)) (e2:zc env y'=I (.bool q)) (ht:P.underlying t=I .bool):Val P C a o w (.bool (bif neq then !(p == q)else p == q)):=by
 have hu:=(zq he h1 e1).cS
 have hv:=(zq he h2 e2).cS
 refine⟨_,?_,.bool _⟩
 have qC:=T3 (P:=P) (neq:=neq) (t:=t) (u:=.bool p) (v:=.bool q) (b:=p == q) w ⟨by simp,by simp,by simp,by simp⟩ (run_equalIn_bool w 9999 t p q ht)
 exact NK (hop▸ho) hu hv (by simp) (.inl (by simp)) qC
theorem jdj {op neq b}{t u:TypeId}{x y c}(ho:o.op=.binOp op t x y u)(hop:op=if neq then .neq else .eql)
  (hy:a.eval y=c) (bu:(∀k n,a.eval x≠.int k n)∧(∀s,a.eval x≠.string s)∧(∀k n,a.eval x≠.float k n)∧(∀k n m,a.eval x≠.complex k n m)) (cK:∀cs,a.eval x≠.agg cs) (T4:a.eval x≠.nilIface)
  (h:(Op.equal t (a.eval x) c).run P w=.ok b w):Val P C a o w (.bool (bif neq then !b else b)):=by
 refine⟨_,?_,.bool _⟩
 have qC:=T3 (P:=P) (neq:=neq) w bu h
 exact NK (hop▸ho) rfl hy (fun h=>T4 h.1) (.inl cK) qC
theorem jv4 {op}{t:TypeId}{x x' p v}(he:aX C env a.tmps)(ho:o.op=.unOp op t x)(h1:zp x=I x')(e1:zc env x'=I p)(hv:xm op p=I v):Val P C a o w v:=by
 have r1:=zq he h1 e1
 unfold xm at hv
 split at hv
 ·obtain hu:=r1.bJ
  cases hv
  rw[Ag]
  (refine⟨_,?_,.int _ _⟩;simp[execOp,ho,hu,Op.unary,Op.intArith])
 ·obtain hu:=r1.cS
  cases hv
  (refine⟨_,?_,.bool _⟩;simp[execOp,ho,hu,Op.unary])
 ·cases hv
theorem je4 {s d:TypeId}{k k0 x x' k1 n}(he:aX C env a.tmps)(ho:o.op=.convert s d x)(hs:P.underlying s=I (.int k0))(hd:P.underlying d=I (.int k))
  (h1:zp x=I x') (e1:zc env x'=I (.int k1 n)):Val P C a o w (.int k (j6 k n)):=by
 have hu:=(zq he h1 e1).bJ
 rw[Ag]
 (refine⟨_,?_,.int _ _⟩;simp[execOp,ho,hu,convert,run_underlying hs,run_underlying hd,Conv.intToInt])
theorem q62 {s d:TypeId}{x x' v}(he:aX C env a.tmps)(ho:o.op=.convert s d x)(hs:P.underlying s=I .string)(hd:P.underlying d=I .string)
  (h1:zp x=I x') (e1:zc env x'=I v) (hv:∃l,v=.str l):Val P C a o w v:=by
 obtain⟨l,rfl⟩:=hv
 have r:=zq he h1 e1
 have hu:=r.bW
 exact⟨_,by simp[execOp,ho,hu,convert,run_underlying hs,run_underlying hd];rfl,by rw[←hu];exact r⟩
theorem q4p {s d:TypeId}{x x' v k0}(he:aX C env a.tmps)(ho:o.op=.convert s d x)(hs:P.underlying s=I (.int k0))(hd:P.underlying d=I .string)
  (h1:zp x=I x') (e1:zc env x'=I v) (hv:∃l,v=.str l):Val P C a o w v:=by
 obtain⟨l,rfl⟩:=hv
 have r:=zq he h1 e1
 have hu:=r.bW
 exact⟨_,by simp[execOp,ho,hu,convert,run_underlying hs,run_underlying hd];rfl,by rw[←hu];exact r⟩
theorem q6o {s d:TypeId}{x x' k0 k1 n}(he:aX C env a.tmps)(ho:o.op=.convert s d x)(hs:P.underlying s=I (.int k0))(hd:P.underlying d=I .string)
  (h1:zp x=I x') (e1:zc env x'=I (.int k1 n)):Val P C a o w (.str (Utf8.encode n).data.toList):=by
 have hu:=(zq he h1 e1).bJ
 exact⟨.string (Utf8.encode n),by simp[execOp,ho,hu,convert,run_underlying hs,run_underlying hd,Conv.intToString],.str _⟩
theorem q2y {s d:TypeId}{x x' k1 n}(he:aX C env a.tmps)(ho:o.op=.convert s d x)(hs:P.underlying s=I .string)(hd:P.underlying d=I .string)
  (h1:zp x=I x') (e1:zc env x'=I (.int k1 n)):Val P C a o w (.str (Utf8.encode n).data.toList):=by
 have hu:=(zq he h1 e1).bJ
 exact⟨.string (Utf8.encode n),by simp[execOp,ho,hu,convert,run_underlying hs,run_underlying hd,Conv.intToString],.str _⟩
theorem jd5 {t:TypeId}{x x' i fs f ag n cs v}(he:aX C env a.tmps)(ho:o.op=.field t x i)(ht:P.underlying t=I (.struct fs))(hf:fs[i]?=I f)
  (cK:fh P f.type=I ag) (hn:yf P f.type=I n) (h1:zp x=I x') (e1:zc env x'=I (.agg cs)) (hv:Abs.part ag cs f.offset n=I v):Val P C a o w v:=by
 obtain⟨us,hu,ru⟩:=(zq he h1 e1).dX
 obtain⟨z,hz,hr⟩:=q53 cK hn hv ru w
 refine⟨z,?_,hr⟩
 simp[execOp,ho,hu,Instr.field,run_underlying ht,hf,asAgg,hz]
theorem Gd {n v j}(h:idx n v=I j):∃k,v=.int k (j:Int)∧j<n:=by
 unfold idx at h
 split at h
 ·rename_i k i
  cases hb:Nat.blt i n with
  |false=>simp[hb]at h
  |true=>
   simp[hb]at h
   subst h
   exact⟨k,rfl,by have:=Ek hb;omega⟩
 ·cases h
theorem jdx {n v j}(h:zX n v=I j):∃k,v=.int k (j:Int)∧j≤n:=by
 unfold zX at h
 split at h
 ·rename_i k i
  cases hb:Gn i n with
  |false=>simp[hb]at h
  |true=>
   simp[hb]at h
   subst h
   exact⟨k,rfl,Ek hb⟩
 ·cases h
theorem jck {t e:TypeId}{x i x' i' len n ag cs iv v j}(he:aX C env a.tmps)(ho:o.op=.index t x i)(ht:P.underlying t=I (.array len e))
  (cK:fh P e=I ag) (hn:yf P e=I n) (h1:zp x=I x') (h2:zp i=I i') (e1:zc env x'=I (.agg cs)) (e2:zc env i'=I iv) (hj:idx len iv=I j) (hv:Abs.part ag cs (j*n) n=I v):Val P C a o w v:=by
 obtain⟨us,hu,ru⟩:=(zq he h1 e1).dX
 obtain⟨k,rfl,bh⟩:=Gd hj
 have hi:=(zq he h2 e2).bJ
 obtain⟨z,hz,hr⟩:=q53 cK hn hv ru w
 refine⟨z,?_,hr⟩
 simp[execOp,ho,hu,hi,Instr.index,asIntOf,run_underlying ht,bh,iX hn,hz]
theorem q5d {t:TypeId}{x i x' i' s iv j c}(he:aX C env a.tmps)(ho:o.op=.index t x i)(ht:P.underlying t=I .string)
  (h1:zp x=I x') (h2:zp i=I i') (e1:zc env x'=I (.str s)) (e2:zc env i'=I iv) (hj:idx s.length iv=I j) (hc:s[j]?=I c):Val P C a o w (.int .u8 c.toNat):=by
 have hu:=(zq he h1 e1).bW
 obtain⟨k,rfl,bh⟩:=Gd hj
 have hi:=(zq he h2 e2).bJ
 refine⟨_,?_,.int _ _⟩
 have hb:(⟨⟨s⟩⟩:ByteArray)[j]?=I c:=by
  rw[getElem?_pos (ByteArray.mk ⟨s⟩) j bh]
  exact congrArg I (List.getElem?_eq_some_iff.1 hc).2
 simp[execOp,ho,hu,hi,Instr.index,asIntOf,run_underlying ht,hb]
end
section
variable {P:Program}{C:aA}{w:World}{env:Env}{a:Act}{o:Oper}
theorem qcb {z:qa}(h:z.isAgg=Ga):z.flat=[z]:=by cases z<;>simp[qa.isAgg,qa.flat]at *
theorem q7p {ag:Bool}{cs off n r q z}(hc:bZ C r cs q)(hz:Abs.part ag cs off n=I z)(hx:G3 ag z.isAgg=Ga):bZ C r z.flat (q+off):=by
 unfold Abs.part at hz
 cases ag with
 |true=>
  simp only[cT]at hz
  cases hb:Gn (off+n) cs.length with
  |false=>simp[hb]at hz
  |true=>simp[hb]at hz;subst hz;exact bZ.take n (bZ.drop off hc)
 |false=>
  simp only[cond_false]at hz
  rw[qcb (by simpa using hx)]
  obtain⟨u,h1,h2⟩:=hc.get hz
  exact .df _ _ _ _ u h1 h2 (.gJ _ _)
theorem qq9 {t:TypeId}{x x' i fs f ag n p v}(he:aX C env a.tmps)(ho:o.op=.fieldAddr t x i)(ht:P.underlying t=I (.struct fs))(hf:fs[i]?=I f)
  (hn:yf P f.type=I n) (Ah:0<n) (h1:zp x=I x') (e1:zc env x'=I p)
  (hv:(∃b q,p=.ptr b q∧v=.ptr b (q+f.offset))∨(∃cs z,p=.ah (.agg cs)∧Abs.part ag cs f.offset n=I z∧G3 ag z.isAgg=Ga∧v=.ah z)):Val P C a o w v:=by
 have bq:∀r q,a.eval x=.pointer (I ⟨r,q,Eu⟩)→(execOp a.eval o).run P w=.ok (.value (.pointer (I ⟨r,q+f.offset,Eu⟩))) w:=by
  intro r q hq
  simp[execOp,ho,Instr.fieldAt,run_underlying ht,hf,hq,Instr.sureAddr,fieldPlace,iX hn,Nat.pos_iff_ne_zero.1 Ah,add_lit]
 rcases hv with⟨b,q,rfl,rfl⟩|⟨cs,z,rfl,hz,hx,rfl⟩
 ·obtain⟨r,hr,hq⟩:=(zq he h1 e1).cU
  exact⟨_,bq r q hq,.ptr _ _ _ hr⟩
 ·obtain⟨r,q,hq,hc⟩:=(zq he h1 e1).et
  exact⟨_,bq r q hq,.ah _ _ _ (q7p hc hz hx)⟩
theorem qq1 {t e:TypeId}{x i x' i' sz p iv v}(he:aX C env a.tmps)(ho:o.op=.indexAddr t x i)(ht:P.underlying t=I (.slice e))
  (hn:yf P e=I sz) (h1:zp x=I x') (h2:zp i=I i') (e1:zc env x'=I p) (e2:zc env i'=I iv)
  (hv:(∃b q len j,p=.ms b q len∧idx len iv=I j∧v=.ptr b (q+j*sz))∨(∃nl xs z j,p=.list nl sz xs∧idx xs.length iv=I j∧xs[j]?=I z∧v=.ah z)):Val P C a o w v:=by
 have bq:∀r q len cap j,a.eval x=.slice (I ⟨r,q,Eu⟩) len cap→idx len iv=I j→(execOp a.eval o).run P w=.ok (.value (.pointer (I ⟨r,q+j*sz,Eu⟩))) w:=by
  intro r q len cap j hq hj
  obtain⟨k,rfl,bh⟩:=Gd hj
  have hi:=(zq he h2 e2).bJ
  simp[execOp,ho,Instr.indexAt,run_underlying ht,hq,hi,asIntOf,iX hn,bh,add_lit]
 rcases hv with⟨b,q,len,j,rfl,hj,rfl⟩|⟨nl,xs,z,j,rfl,hj,hz,rfl⟩
 ·obtain⟨r,cap,hr,_,hq⟩:=(zq he h1 e1).eu
  exact⟨_,bq r q len cap j hq hj,.ptr _ _ _ hr⟩
 ·rcases(zq he h1 e1).cG with⟨rfl,rfl,hq⟩|⟨rfl,r,q,cap,hq,_,cL⟩|⟨rfl,rfl,_⟩
  ·simp at hz
  ·exact⟨_,bq r q _ cap j hq hj,.ah _ _ _ (cL.get hz)⟩
  ·simp at hz
theorem qr9 {t e:TypeId}{x i x' i' len sz ag p iv v j}(he:aX C env a.tmps)(ho:o.op=.indexAddr t x i)(ht:P.underlying t=I (.array len e))
  (hn:yf P e=I sz) (h1:zp x=I x') (h2:zp i=I i') (e1:zc env x'=I p) (e2:zc env i'=I iv) (hj:idx len iv=I j)
  (hv:(∃b q,p=.ptr b q∧v=.ptr b (q+j*sz))∨(∃cs z,p=.ah (.agg cs)∧Abs.part ag cs (j*sz) sz=I z∧G3 ag z.isAgg=Ga∧v=.ah z)):Val P C a o w v:=by
 have bq:∀r q,a.eval x=.pointer (I ⟨r,q,Eu⟩)→(execOp a.eval o).run P w=.ok (.value (.pointer (I ⟨r,q+j*sz,Eu⟩))) w:=by
  intro r q hq
  obtain⟨k,rfl,bh⟩:=Gd hj
  have hi:=(zq he h2 e2).bJ
  simp[execOp,ho,Instr.indexAt,run_underlying ht,hq,hi,asIntOf,Instr.sureAddr,iX hn,bh,add_lit]
 rcases hv with⟨b,q,rfl,rfl⟩|⟨cs,z,rfl,hz,hx,rfl⟩
 ·obtain⟨r,hr,hq⟩:=(zq he h1 e1).cU
  exact⟨_,bq r q hq,.ptr _ _ _ hr⟩
 ·obtain⟨r,q,hq,hc⟩:=(zq he h1 e1).et
  exact⟨_,bq r q hq,.ah _ _ _ (q7p hc hz hx)⟩
theorem NL {x x' d n j}(he:aX C env a.tmps)(hc:mO x=I x')(hb:eY env d n x'=I j):
  (x=Eu∧j=d)∨(∃y k,x=I y∧a.eval y=.int k (j:Int)∧j≤n):=by
 cases x with
 |none=>simp[mO]at hc;subst hc;simp[eY]at hb;exact .inl ⟨rfl,hb.symm⟩
 |some x=>
  simp only[mO]at hc
  split at hc
  ·rename_i z hz
   cases hc
   simp only[eY]at hb
   split at hb
   ·rename_i v hv
    obtain⟨k,rfl,hle⟩:=jdx hb
    exact .inr ⟨x,k,rfl,(zq he hz hv).bJ,hle⟩
   ·cases hb
  ·cases hc
theorem NM {lo hi ly fI len cap i j isS}(he:aX C env a.tmps)(h1:mO lo=I ly)(h2:mO hi=I fI)(b2:eY env len len fI=I j)(b1:eY env 0 j ly=I i)(hc:len≤cap)(w:World):
  (Instr.sliceBounds isS len cap (lo.map a.eval) (hi.map a.eval) Eu).run P w=.ok (i,j,cap) w∧i≤j∧j≤len:=by
 have k2:j≤len:=by
  rcases NL he h2 b2 with⟨_,rfl⟩|⟨_,_,_,_,h⟩
  ·exact Ep _
  ·exact h
 have k1:i≤j:=by
  rcases NL he h1 b1 with⟨_,rfl⟩|⟨_,_,_,_,h⟩
  ·exact Nat.zero_le _
  ·exact h
 refine⟨?_,k1,k2⟩
 have hj:j≤cap:=by omega
 rcases NL he h2 b2 with⟨rfl,rfl⟩|⟨y,k,rfl,hy,_⟩<;>rcases NL he h1 b1 with⟨rfl,rfl⟩|⟨z,k',rfl,hz,_⟩
 ·simp[Instr.sliceBounds]
 ·simp[Instr.sliceBounds,hz,Instr.sliceBound,asIntOf,k1]
 ·simp[Instr.sliceBounds,hy,Instr.sliceBound,asIntOf,hj]
 ·simp[Instr.sliceBounds,hy,hz,Instr.sliceBound,asIntOf,hj,k1]
theorem q06 {t e:TypeId}{x lo hi x' ly fI sz i j p v}(he:aX C env a.tmps)(ho:o.op=.slice t x lo hi Eu)(ht:P.underlying t=I (.slice e))
  (hn:yf P e=I sz) (h1:zp x=I x') (h2:mO lo=I ly) (h3:mO hi=I fI) (e1:zc env x'=I p)
  (hv:(∃b q len,p=.ms b q len∧eY env len len fI=I j∧eY env 0 j ly=I i∧(i=0∨i<j)∧v=.ms b (q+i*sz) (j-i)) ∨
   (∃nl cJ xs,p=.list nl cJ xs∧(sz=cJ∨xs=[])∧eY env xs.length xs.length fI=I j∧eY env 0 j ly=I i∧v=.list nl cJ ((xs.take j).drop i))):Val P C a o w v:=by
 have bq:∀b len cap,a.eval x=.slice b len cap→len≤cap→eY env len len fI=I j→eY env 0 j ly=I i →
   (execOp a.eval o).run P w=.ok (.value (.slice (if cap=i then b else b.map (·.add (i*sz))) (j-i) (cap-i))) w∧i≤j∧j≤len:=by
  intro b len cap hq hle b2 b1
  obtain⟨hb,k1,k2⟩:=NM (P:=P) (isS:=true) he h2 h3 b2 b1 hle w
  refine⟨?_,k1,k2⟩
  simp[execOp,ho,Instr.sliceAt,Instr.slice,run_underlying ht,hq,hb,iX hn]
 rcases hv with⟨b,q,len,rfl,b2,b1,vT,rfl⟩|⟨nl,cJ,xs,rfl,cB,b2,b1,rfl⟩
 ·obtain⟨r,cap,hr,hle,hq⟩:=(zq he h1 e1).eu
  obtain⟨hw,k1,k2⟩:=bq _ len cap hq hle b2 b1
  refine⟨_,hw,?_⟩
  by_cases hc:cap=i
  ·rw[if_pos hc]
   obtain rfl:i=0:=by omega
   simpa using qh.ms b q (j-0) r (cap-0) hr (by omega)
  ·rw[if_neg hc]
   simp only[Gv,add_lit]
   exact .ms _ _ _ _ _ hr (by omega)
 ·rcases(zq he h1 e1).cG with⟨rfl,rfl,hq⟩|⟨rfl,r,q,cap,hq,hle,cL⟩|⟨rfl,rfl,ad,l7,hq⟩
  ·obtain⟨hw,k1,k2⟩:=bq _ 0 0 hq (Ep _) b2 b1
   simp at k2
   obtain rfl:=k2
   obtain rfl:i=0:=by omega
   exact⟨_,hw,by simpa using qh.iV cJ⟩
  ·obtain⟨hw,k1,k2⟩:=bq _ _ cap hq hle b2 b1
   refine⟨_,hw,?_⟩
   have hl:((xs.take j).drop i).length=j-i:=by simp;omega
   rw[←hl]
   by_cases hc:cap=i
   ·rw[if_pos hc]
    have kA:(xs.take j).drop i=[]:=Eh (by simp;omega)
    rw[kA]
    exact .list _ _ _ _ _ (by simp) (.fj _ _ _)
   ·rw[if_neg hc]
    simp only[Gv,add_lit]
    refine .list _ _ _ _ _ (by rw[hl];omega) ?_
    rcases cB with rfl|rfl
    ·exact bg.drop i (bg.take j cL)
    ·simpa using qh.fj _ _ _
  ·obtain⟨hw,k1,k2⟩:=bq _ 0 0 hq (Ep _) b2 b1
   simp at k2
   obtain rfl:=k2
   obtain rfl:i=0:=by omega
   exact⟨_,hw,by simpa using qh.iW cJ ad l7⟩
theorem q42 {t e:TypeId}{x lo hi x' ly fI len sz i j b q}(he:aX C env a.tmps)(ho:o.op=.slice t x lo hi Eu)(ht:P.underlying t=I (.array len e))
  (hn:yf P e=I sz) (h1:zp x=I x') (h2:mO lo=I ly) (h3:mO hi=I fI) (e1:zc env x'=I (.ptr b q)) (b2:eY env len len fI=I j) (b1:eY env 0 j ly=I i) (vT:i=0∨i<j):Val P C a o w (.ms b (q+i*sz) (j-i)):=by
 obtain⟨r,hr,hq⟩:=(zq he h1 e1).cU
 obtain⟨hb,k1,k2⟩:=NM (P:=P) (isS:=false) he h2 h3 b2 b1 (Ep len) w
 refine⟨_,by simp[execOp,ho,Instr.sliceAt,Instr.sureAddr,run_underlying ht,hq,hb,iX hn];rfl,?_⟩
 by_cases hc:len=i
 ·rw[if_pos hc]
  obtain rfl:i=0:=by omega
  simpa using qh.ms b q (j-0) r (len-0) hr (by omega)
 ·rw[if_neg hc]
  simp only[add_lit]
  exact .ms _ _ _ _ _ hr (by omega)
theorem q1x (s:List UInt8)(i j:Nat):(⟨⟨s⟩⟩:ByteArray).extract i j=⟨⟨(s.take j).drop i⟩⟩:=by
 apply ByteArray.ext
 rw[ByteArray.data_extract]
 apply Gi
 simp[List.extract_eq_take_drop,List.drop_take]
theorem q5f {t:TypeId}{x lo hi x' ly fI i j s}(he:aX C env a.tmps)(ho:o.op=.slice t x lo hi Eu)(ht:P.underlying t=I .string)
  (h1:zp x=I x') (h2:mO lo=I ly) (h3:mO hi=I fI) (e1:zc env x'=I (.str s)) (b2:eY env s.length s.length fI=I j) (b1:eY env 0 j ly=I i):Val P C a o w (.str ((s.take j).drop i)):=by
 have hq:=(zq he h1 e1).bW
 obtain⟨hb,k1,k2⟩:=NM (P:=P) (isS:=false) he h2 h3 b2 b1 (Ep s.length) w
 have cB:(⟨⟨s⟩⟩:ByteArray).size=s.length:=rfl
 refine⟨.string ⟨⟨(s.take j).drop i⟩⟩,?_,.str _⟩
 simp[execOp,ho,Instr.sliceAt,Instr.slice,run_underlying ht,hq,cB,hb,q1x]
theorem jbt {k xs ys fA nQ us vs}(he:aX C env a.tmps)(ho:o.op=.makeFunc (.func k) xs ys)(h1:pn xs.toList=I fA)(h2:pn ys.toList=I nQ)(e1:fF env fA=I us)(e2:fF env nQ=I vs):
  Val P C a o w (.fn (.func k) us vs):=by
 refine⟨.func (.func k) (xs.map a.eval) (ys.map a.eval),by simp[execOp,ho,Instr.makeFunc],?_⟩
 have r1:=El he h1 e1
 have r2:=El he h2 e2
 have q1:xs.map a.eval=⟨xs.toList.map a.eval⟩:=by apply Gi;simp
 have q2:ys.map a.eval=⟨ys.toList.map a.eval⟩:=by apply Gi;simp
 rw[q1,q2]
 exact .fn _ _ _ _ _ _ rfl r1 r2
theorem T5 {c x}{t:TypeId}{x' p n}(he:aX C env a.tmps)(ho:o.op=.call c)(dz:c.callee=.builtin .len)(dL:c.args.toList=[x])(dY:c.argTypes.toList=[t])
  (h1:zp x=I x') (e1:zc env x'=I p)
  (hv:(P.underlying t=I .string∧∃s,p=.str s∧n=s.length)∨((∃e,P.underlying t=I (.slice e))∧((∃nl sz xs,p=.list nl sz xs∧n=xs.length)∨(∃b q,p=.ms b q n)))):Val P C a o w (.int .i64 n):=by
 have ha:c.args=#[x]:=by apply Gi;simpa using dL
 have kB:c.argTypes=#[t]:=by apply Gi;simpa using dY
 refine⟨.int .i64 n,?_,.int _ _⟩
 simp only[execOp,ho,resolve,dz,ha,kB,Sem.run_bind,Sem.run_pure,Result.andThen_ok,invoke,builtin,Builtin.len_]
 rcases hv with⟨ht,s,rfl,rfl⟩|⟨⟨e,ht⟩,⟨nl,sz,xs,rfl,rfl⟩|⟨b,q,rfl⟩⟩
 ·have hq:=(zq he h1 e1).bW
  simp[run_underlying ht,hq,goInt]
  rfl
 ·obtain⟨b,cap,hq⟩:=(zq he h1 e1).len
  simp[run_underlying ht,hq,goInt]
 ·obtain⟨r,cap,_,_,hq⟩:=(zq he h1 e1).eu
  simp[run_underlying ht,hq,goInt]
theorem T6 {f:qa→qa→Option qa}{g:Value→Value→Sem Value}(hfg:∀x y z u v,f x y=I z→bG C x u→bG C y v→∃q,(g u v).run P w=.ok q w∧bG C z q):
  ∀(ys:List qa) (x z:qa) (u:Value) (vs:List Value),nE f x ys=I z→bG C x u→aK C ys vs→∃q,(vs.foldlM g u).run P w=.ok q w∧bG C z q
 | [],x,z,u,vs,h,hx,hy=>by
  cases hy
  simp[nE]at h;subst h
  exact⟨u,rfl,hx⟩
 |y::ys,x,z,u,vs,h,hx,hy=>by
  cases hy with
  |cons _ _ v vs hy hr=>
   simp only[nE]at h
   split at h
   ·rename_i z1 lz
    obtain⟨q,hq,rq⟩:=hfg x y z1 u v lz hx hy
    obtain⟨q2,hq2,rq2⟩:=T6 hfg ys z1 z q vs h rq hr
    exact⟨q2,by simp[List.foldlM_cons,hq,hq2],rq2⟩
   ·cases h
theorem jdz {c:Call}{fA:List qp}{p v:qa}{ps:List qa}{mx:Bool}(he:aX C env a.tmps)(ho:o.op=.call c)(dz:c.callee=.builtin (if mx then .max else .min))(h1:pn c.args.toList=I fA)(e1:fF env fA=I (p::ps))
  (hv:nE (if mx then max2 else min2) p ps=I v):Val P C a o w v:=by
 have r1:=El he h1 e1
 have dQ:(c.args.map a.eval).toList=c.args.toList.map a.eval:=by simp
 cases mx
 ·generalize hl:c.args.toList.map a.eval=l at r1
  cases r1 with
  |cons _ _ u us hu gw=>
   obtain⟨q,hq,rq⟩:=T6 (P:=P) (w:=w) (C:=C) (f:=min2) (g:=Builtin.min2) (fun x y z u v h hx hy=>by
    unfold min2 at h
    split at h<;>first|cases h|skip
    rename_i k n k' m
    by_cases hk:k=k'
    ·subst hk;simp at h;subst h
     obtain rfl:=hx.bJ
     obtain rfl:=hy.bJ
     exact⟨_,rfl,.int _ _⟩
    ·simp[hk]at h) ps p v u us (by simpa using hv) hu gw
   refine⟨q,?_,rq⟩
   simp only[Ev,if_false]at dz
   simp[execOp,ho,resolve,dz,invoke,builtin,Builtin.min_,hl,hq]
 ·generalize hl:c.args.toList.map a.eval=l at r1
  cases r1 with
  |cons _ _ u us hu gw=>
   obtain⟨q,hq,rq⟩:=T6 (P:=P) (w:=w) (C:=C) (f:=max2) (g:=Builtin.max2) (fun x y z u v h hx hy=>by
    unfold max2 at h
    split at h<;>first|cases h|skip
    rename_i k n k' m
    by_cases hk:k=k'
    ·subst hk;simp at h;subst h
     obtain rfl:=hx.bJ
     obtain rfl:=hy.bJ
     exact⟨_,rfl,.int _ _⟩
    ·simp[hk]at h) ps p v u us (by simpa using hv) hu gw
   refine⟨q,?_,rq⟩
   simp only[if_true]at dz
   simp[execOp,ho,resolve,dz,invoke,builtin,Builtin.max_,hl,hq]
theorem q6s {x x' i vs v}(he:aX C env a.tmps)(ho:o.op=.extract x i)(h1:zp x=I x')(e1:zc env x'=I (.ay vs))(hv:vs[i]?=I v):Val P C a o w v:=by
 obtain⟨us,hu,ru⟩:=(zq he h1 e1).nP
 obtain⟨u,h1,h2⟩:=ru.get hv
 exact⟨u,by simp[execOp,ho,hu,Instr.extract,h1],h2⟩
end
section
variable {P:Program}{C:aA}{w:World}{env:Env}{a:Act}{o:Oper}
theorem Ai {x v}(h:bG C x v)(hs:x.flat.all zd=Gm):aK C x.flat v.cells.toList:=by
 cases h<;>first
  |(simp only[qa.flat,Value.cells];exact .cons _ _ _ _ (by constructor<;>assumption) .nil)
  |skip
 ·simpa[qa.flat,Value.cells]
 all_goals first|done|exact absurd hs (by simp[qa.flat,zd])|skip
theorem q1d (off:Nat):∀(l:List Value) (k:Nat) (cs:Array Value),off+k+l.length≤cs.size →
  ((l.zipIdx k).foldl (fun cs (x:Value×Nat)=>cs.setIfInBounds (off+x.2) x.1) cs).toList=cs.toList.take (off+k)++l++cs.toList.drop (off+k+l.length)
 | [],k,cs,_=>by simp
 |v::l,k,cs,h=>by
  simp only[List.zipIdx_cons,List.foldl_cons]
  simp at h
  rw[q1d off l (k+1) (cs.setIfInBounds (off+k) v) (by simp;omega)]
  have bh:off+k<cs.toList.length:=by simp;omega
  rw[Array.toList_setIfInBounds]
  have e1:(cs.toList.set (off+k) v).take (off+(k+1))=cs.toList.take (off+k)++[v]:=by
   rw[←Gy,List.take_succ_eq_append_getElem (by simpa using bh),List.take_set,List.set_eq_of_length_le (by simp;omega),List.getElem_set_self]
  have e2:(cs.toList.set (off+k) v).drop (off+(k+1)+l.length)=cs.toList.drop (off+k+(v::l).length):=by
   rw[List.drop_set_of_lt (by omega)]
   congr 1
   simp;omega
  rw[e1,e2]
  simp
inductive ji (C:aA)(place:Nat→Option (Nat×Nat)):List (Nat×Value)→List (Nat×List qa)→Prop where
 |nil:ji C place [] []
 |cons (i:Nat) (v:Value) (off:Nat) (vs:List qa) (ps:List (Nat×Value)) (qs:List (Nat×List qa)) (h1:place i=I (off,vs.length)) (h2:aK C vs v.cells.toList) (h:ji C place ps qs):ji C place ((i,v)::ps) ((off,vs)::qs)
theorem NN {place}:∀(ps:List (Nat×Value)) (qs:List (Nat×List qa)) (xs ys:List qa) (cs:Array Value),aK C xs cs.toList→jJ xs qs=I ys →
  ji C place ps qs →
  ∃ds,Instr.fill place cs ps=I ds∧aK C ys ds.toList
 | [],qs,xs,ys,cs,hx,hf,hp=>by
  cases hp
  simp[jJ]at hf
  subst hf
  exact⟨cs,rfl,hx⟩
 |_::ps,qs,xs,ys,cs,hx,hf,hp=>by
  cases hp with
  |cons i v off vs _ qs Ge hr htl=>
   simp only[jJ]at hf
   cases hb:Gn (off+vs.length) xs.length with
   |false=>simp[hb]at hf
   |true=>
    simp only[hb,cT]at hf
    have hle:=Ek hb
    have gK:=hx.length
    have ov:=hr.length
    simp at gK ov
    have qD:=q1d off v.cells.toList 0 cs (by simp;omega)
    have hz:v.cells.zipIdx.foldl (fun cs (x:Value×Nat)=>cs.setIfInBounds (off+x.2) x.1) cs=(v.cells.toList.zipIdx 0).foldl (fun cs (x:Value×Nat)=>cs.setIfInBounds (off+x.2) x.1) cs:=by
     rw[←Array.foldl_toList,Array.toList_zipIdx]
    obtain⟨ds,h1,h2⟩:=NN (place:=place) ps qs _ ys (v.cells.zipIdx.foldl (fun cs (x:Value×Nat)=>cs.setIfInBounds (off+x.2) x.1) cs) (by
     rw[hz,qD]
     simp only[Nat.add_zero,Array.length_toList,ov]
     exact aK.append (aK.append (hx.take off) hr) (hx.drop _)) hf htl
    refine⟨ds,?_,h2⟩
    simp only[Instr.fill,Ge]
    rw[if_neg (by simp;omega)]
    exact h1
theorem T7 {place}(he:aX C env a.tmps):∀(ps:List (Nat×Operand)) (fB:List (Nat×Nat×qp)) (qs:List (Nat×List qa)),xq P place ps=I fB→ln env fB=I qs →
  ji C place (ps.map fun x=>(x.1,a.eval x.2)) qs
 | [],fB,qs,hc,hv=>by
  simp[xq]at hc;subst hc
  simp[ln]at hv;subst hv
  exact .nil
 |(i,x)::ps,fB,qs,hc,hv=>by
  simp only[xq]at hc
  split at hc
  ·rename_i off n y r Ge hy hr
   cases hc
   simp only[ln]at hv
   split at hv
   ·rename_i v nO
    cases hb:(Nat.beq v.flat.length n&&v.flat.all zd)with
    |false=>simp[hb]at hv
    |true=>
     simp only[hb,cT]at hv
     simp only[Gr]at hb
     split at hv
     ·rename_i r' jL
      cases hv
      have hl:=Gl hb.1
      exact .cons _ _ _ _ _ _ (by rw[Ge,hl]) (Ai (zq he hy nO) hb.2) (T7 he ps r r' hr jL)
     ·cases hv
   ·cases hv
  ·cases hc
theorem q0x {t:TypeId}{z}(h:ei P t=I z)(w:World):∃v,(zeroValue t).run P w=.ok v w∧aK C z v.cells.toList∧∃i,P.info? t=I i∧i.zero=I v:=by
 unfold ei at h
 split at h
 ·rename_i i hi
  split at h
  ·rename_i v hv
   exact⟨v,by simp[zeroValue,typeInfo,hi,hv],NF C h,i,hi,hv⟩
  ·cases h
 ·cases h
theorem quy {fs:Array Field}(w:World):∀(l:List Field),(∀f∈l,(yf P f.type).isSome)→(l.mapM fun(f:Field)=>(do pure (f.offset,←sizeOf f.type):Sem (Nat×Nat))).run P w=.ok (l.map fun f=>(f.offset,(yf P f.type).getD 0)) w
 | [],_=>rfl
 |f::l,h=>by
  obtain⟨n,hn⟩:=Gh.1 (h f (by simp))
  simp only[List.mapM_cons,Sem.run_bind,iX hn,Result.andThen_ok,Sem.run_pure,quy (fs:=fs) w l (fun g hg=>h g (by simp[hg])),G2,hn,Option.getD_some]
theorem qyy {t:TypeId}{ps fs z fB qs cs}(he:aX C env a.tmps)(ho:o.op=.build t ps)(ht:P.underlying t=I (.struct fs))(hz:ei P t=I z)
  (hall:∀f∈fs.toList,(yf P f.type).isSome) (l8:xq P (fun i=>match fs[i]? with|some f=>(yf P f.type).map fun n=>(f.offset,n)|none=>Eu) ps.toList=I fB) (hq:ln env fB=I qs) (hf:jJ z qs=I cs):Val P C a o w (.agg cs):=by
 obtain⟨zv,lb,cu,_⟩:=q0x (C:=C) hz w
 have hm:=quy (P:=P) (fs:=fs) w fs.toList hall
 have qE:=T7 (P:=P) he ps.toList fB qs l8 hq
 have Aj:(fun(i:Nat)=>match fs[i]? with|some f=>(yf P f.type).map fun n=>(f.offset,n)|none=>Eu)=fun(i:Nat)=>((fs.toList.map fun f=>(f.offset,(yf P f.type).getD 0)).toArray)[i]?:=by
  funext i
  have hm:∀f,fs[i]?=I f→f∈fs.toList:=fun f h=>by rw[Array.mem_toList_iff];exact Array.mem_of_getElem? h
  obtain⟨l⟩:=fs
  simp only[Gk,List.getElem?_map]at hm ⊢
  cases h:l[i]? with
  |none=>rfl
  |some f=>
   obtain⟨n,hn⟩:=Gh.1 (hall f (hm f h))
   simp[hn]
 rw[Aj]at qE
 obtain⟨ds,hd,hr⟩:=NN (ps.toList.map fun x=>(x.1,a.eval x.2)) qs z cs zv.cells cu hf qE
 refine⟨.agg ds,?_,.agg cs ds.toList hr⟩
 have lA:(fs.mapM fun(f:Field)=>(do pure (f.offset,←sizeOf f.type):Sem (Nat×Nat))).run P w=.ok ((fs.toList.map fun f=>(f.offset,(yf P f.type).getD 0)).toArray) w:=by
  rw[Array.mapM_eq_mapM_toList]
  simp only[Sem.run_map]
  rw[hm]
  rfl
 have uJ:(ps.map fun(x:Nat×Operand)=>(x.1,a.eval x.2)).toList=ps.toList.map fun x=>(x.1,a.eval x.2):=by simp
 simp only[execOp,ho,Instr.build,Sem.run_bind,lb,Result.andThen_ok,run_underlying ht,lA,uJ,hd,Sem.run_pure]
theorem q0q {t e:TypeId}{ps len n z fB qs cs}(he:aX C env a.tmps)(ho:o.op=.build t ps)(ht:P.underlying t=I (.array len e))(hz:ei P t=I z)
  (hn:yf P e=I n) (l8:xq P (fun i=>I (i*n,n)) ps.toList=I fB) (hq:ln env fB=I qs) (hf:jJ z qs=I cs):Val P C a o w (.agg cs):=by
 obtain⟨zv,lb,cu,_⟩:=q0x (C:=C) hz w
 have qE:=T7 (P:=P) he ps.toList fB qs l8 hq
 obtain⟨ds,hd,hr⟩:=NN (ps.toList.map fun x=>(x.1,a.eval x.2)) qs z cs zv.cells cu hf qE
 refine⟨.agg ds,?_,.agg cs ds.toList hr⟩
 have uJ:(ps.map fun(x:Nat×Operand)=>(x.1,a.eval x.2)).toList=ps.toList.map fun x=>(x.1,a.eval x.2):=by simp
 simp only[execOp,ho,Instr.build,Sem.run_bind,lb,Result.andThen_ok,run_underlying ht,iX hn,uJ,hd,Sem.run_pure]
theorem qq7 {sz}(he:aX C env a.tmps):∀(ps:List (Nat×Operand)) (fB:List (Nat×qp)) (qs:List (Nat×qa)),xr ps=I fB→iG env sz fB=I qs →
  ji C (fun i=>I (i*sz,sz)) (ps.map fun x=>(x.1,a.eval x.2)) (qs.map fun x=>(x.1*sz,x.2.flat))∧∀q∈qs,q.2.flat.length=sz
 | [],fB,qs,hc,hv=>by
  simp[xr]at hc;subst hc
  simp[iG]at hv;subst hv
  exact⟨.nil,by simp⟩
 |(i,x)::ps,fB,qs,hc,hv=>by
  simp only[xr]at hc
  split at hc
  ·rename_i y r hy hr
   cases hc
   simp only[iG]at hv
   split at hv
   ·rename_i v nO
    cases hb:(Nat.beq v.flat.length sz&&v.flat.all zd)with
    |false=>simp[hb]at hv
    |true=>
     simp only[hb,cT]at hv
     simp only[Gr]at hb
     split at hv
     ·rename_i r' jL
      cases hv
      have hl:=Gl hb.1
      obtain⟨h1,h2⟩:=qq7 he ps r r' hr jL
      refine⟨.cons _ _ _ _ _ _ (by rw[hl]) (Ai (zq he hy nO) hb.2) h1,?_⟩
      intro q hq
      rcases List.mem_cons.1 hq with rfl|hq
      ·exact hl
      ·exact h2 q hq
     ·cases hv
   ·cases hv
  ·cases hc
theorem qu2 {sz}:∀(xs:List qa) (i:Nat) (v:qa),(∀x∈xs,x.flat.length=sz)→v.flat.length=sz→i<xs.length →
  (xs.set i v).flatMap qa.flat=(xs.flatMap qa.flat).take (i*sz)++v.flat++(xs.flatMap qa.flat).drop (i*sz+sz)
 | [],i,v,_,_,h=>by simp at h
 |x::xs,0,v,hl,hv,_=>by
  simp only[List.set_cons_zero,Gf,Nat.zero_mul,List.take_zero,List.nil_append,Nat.zero_add]
  rw[List.drop_append_of_le_length (by rw[hl x (by simp)];exact Ep _),Eh (by rw[hl x (by simp)];exact Ep _)]
  simp
 |x::xs,i+1,v,hl,hv,h=>by
  simp only[List.set_cons_succ,Gf]
  rw[qu2 xs i v (fun y hy=>hl y (by simp[hy])) hv (by simpa using h)]
  have hx:=hl x (by simp)
  have e1:(i+1)*sz=x.flat.length+i*sz:=by rw[hx,En];omega
  have t1:List.take (x.flat.length+i*sz) (x.flat++xs.flatMap qa.flat)=x.flat++(xs.flatMap qa.flat).take (i*sz):=List.take_length_add_append _
  have t2:List.drop (x.flat.length+i*sz+sz) (x.flat++xs.flatMap qa.flat)=(xs.flatMap qa.flat).drop (i*sz+sz):=by
   rw[Gy];exact List.drop_length_add_append _
  rw[e1,t1,t2]
  simp
theorem lB {sz}:∀(xs:List qa),(∀x∈xs,x.flat.length=sz)→(xs.flatMap qa.flat).length=xs.length*sz
 | [],_=>by simp
 |x::xs,h=>by
  simp only[Gf,List.length_append,List.length_cons]
  rw[lB xs (fun y hy=>h y (by simp[hy])),h x (by simp),En];omega
theorem qxp {sz}:∀(qs:List (Nat×qa)) (xs ys:List qa),lq xs qs=I ys→(∀x∈xs,x.flat.length=sz)→(∀q∈qs,q.2.flat.length=sz) →
  jJ (xs.flatMap qa.flat) (qs.map fun x=>(x.1*sz,x.2.flat))=I (ys.flatMap qa.flat)∧(∀y∈ys,y.flat.length=sz)∧ys.length=xs.length
 | [],xs,ys,h,hx,_=>by simp[lq]at h;subst h;exact⟨rfl,hx,rfl⟩
 |(i,v)::qs,xs,ys,h,hx,hq=>by
  simp only[lq]at h
  cases hb:Nat.blt i xs.length with
  |false=>simp[hb]at h
  |true=>
   simp only[hb,cT]at h
   have bh:i<xs.length:=by have:=Ek hb;omega
   have hv:=hq (i,v) (by simp)
   obtain⟨h1,h2,h3⟩:=qxp qs (xs.set i v) ys h (fun y hy=>by
    rcases List.mem_or_eq_of_mem_set hy with h|rfl
    ·exact hx y h
    ·exact hv) (fun q h=>hq q (by simp[h]))
   refine⟨?_,h2,by simpa using h3⟩
   have hl:=lB xs hx
   have hle:i*sz+sz≤xs.length*sz:=by rw[←En];exact Nat.mul_le_mul_right _ bh
   simp only[G2,jJ]
   rw[show Gn (i*sz+v.flat.length) (xs.flatMap qa.flat).length=Gm from by rw[Nat.ble_eq];simp only at hv;omega]
   simp only[cT]
   rw[qu2 xs i v hx hv bh]at h1
   simp only at hv
   rw[hv]
   exact h1
end
end Go.Abs
