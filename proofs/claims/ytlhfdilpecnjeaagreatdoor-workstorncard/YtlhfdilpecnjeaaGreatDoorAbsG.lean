/- The growth of an empty slice in slices.Grow. -/
import Derived.Test.YtlhfdilpecnjeaaGreatDoorAbsE
import Derived.Lib.AppendZeros
import Derived.ProofKit
import Derived.OpenShut
import Derived.ShutString
set_option linter.unusedVariables false
set_option linter.unusedSimpArgs false
open Option renaming some->En,none->E6,map_eq_some_iff->Ik,bind_some->Jy
open Bool renaming and_eq_true->Ha,true->Hb,false->H2,cond_eq_ite->H8
open Nat renaming eq_of_beq_eq_true->Hc,le_max_right->Ib,le_max_left->If,beq->Ig,ble->Ix,succ_mul->I1,le_refl->Jw,blt->Jx
open List renaming getElem?_range->H3,range->H9,length_eq_zero_iff->Ij,mem_of_getElem?->Il,getElem?_eq_some_iff->Ip,mem_cons_of_mem->Iw,mem_cons_self->Iy,flatten_cons->I2,length_range->I3,getElem?_map->Jv,mem_append->Jz,replicate->J2,drop_drop->Ld,mem_cons->Le,map_cons->Lf,all_cons->Lg
open Array renaming getD_eq_getD_getElem?->H4,ext'->Ic,getElem?_eq_some_iff->Io
open Prod renaming mk->Iq
namespace Go.Abs
section
variable {P:Program}{C C0:aQ}{ω:Nat->Option Loc}{w w0:World}{hp:qf}{env:Env}{a:Act}{ρ:Option Nat}
theorem wF {a:Act}{d:Nat}{v:Value}(h:d<a.tmps.size):(a.put (En d) v).eval (.tmp d)=v:=by
 simp[Act.eval,Act.put,H4,h]
theorem pQ {a:Act}{d j:Nat}{v:Value}(h:d≠j):(a.put (En d) v).eval (.tmp j)=a.eval (.tmp j):=by
 simp[Act.eval,Act.put,H4,Array.getElem?_setIfInBounds_ne h]
theorem s6 {a:Act}{d:Nat}{v:Value}:(a.put (En d) v).tmps.size=a.tmps.size:=by simp[Act.put]
theorem uQ {ops:Array Oper}{aaj:Exit->Act->World->Prop}{i d:Nat}{rest:List Nat}{o:Oper}{v:Value}{w':World}(hi:ops[i]?=En o)(hg:o.guard=E6)(hd:o.dst=En d)(hn:∀c,o.op≠.defer c)(bF:(execOp a.eval o).run P w=.ok (.value v) w')
  (hk:wpOpsIn (jO ρ) 0 P ops aaj rest (a.put (En d) v) w'):wpOpsIn (jO ρ) 0 P ops aaj (i::rest) a w:=by
 rw[wpOpsIn_cons];unfold wpOpIn;rw[hi];simp only[];rw[show Region.wanted o (yielded ops a.tmps)=Hb from by simp[Region.wanted,hg]];simp only[if_true];refine⟨fun _ _=>trivial,?_⟩;rw[Oper.semAt_eq _ _ _ hn,bF];rw[<-hd]at hk;exact hk
theorem NH {s d:Nat}{o:Oper}(h:Fw s d o=Hb):o.op=.move (.tmp s)/\o.dst=En d/\o.guard=E6:=by
 unfold Fw at h;split at h
 .rename_i Y I h3;simp only[Ha,beq_iff_eq]at h;obtain⟨rfl,rfl⟩:=h;exact⟨Y,I,h3⟩
 .cases h
theorem q8d {s d:Nat}{o:Oper}(h:Td s d o=Hb):o.op=.assign (.tmp s)/\o.dst=En d/\o.guard=E6:=by
 unfold Td at h;split at h
 .rename_i Y I h3;simp only[Ha,beq_iff_eq]at h;obtain⟨rfl,rfl⟩:=h;exact⟨Y,I,h3⟩
 .cases h
theorem jno {x d:Nat}{o:Oper}{t:TypeId}(h:Te x d o=En t):∃c,o.op=.call c/\c.callee=.builtin .cap/\c.args=#[.tmp x]/\c.argTypes=#[t]/\o.dst=En d/\o.guard=E6:=by
 unfold Te at h;split at h
 .rename_i c _ Y I h3;split at h
  .rename_i h4 h5 h6;split at h
   .rename_i hk;simp only[Ha,beq_iff_eq]at hk;obtain⟨rfl,rfl⟩:=hk;cases h;exact⟨c,Y,h4,by apply Ic;simpa using h5,by apply Ic;simpa using h6,I,h3⟩
   .cases h
  .cases h
 .cases h
theorem jpe {x d:Nat}{o:Oper}{t:TypeId}(h:Tf x d o=En t):∃c,o.op=.call c/\c.callee=.builtin .len/\c.args=#[.tmp x]/\c.argTypes=#[t]/\o.dst=En d/\o.guard=E6:=by
 unfold Tf at h;split at h
 .rename_i c _ Y I h3;split at h
  .rename_i h4 h5 h6;split at h
   .rename_i hk;simp only[Ha,beq_iff_eq]at hk;obtain⟨rfl,rfl⟩:=hk;cases h;exact⟨c,Y,h4,by apply Ic;simpa using h5,by apply Ic;simpa using h6,I,h3⟩
   .cases h
  .cases h
 .cases h
theorem q9c {x h d:Nat}{o:Oper}{t:TypeId}(hh:M1 x h d o=En t):o.op=.slice t (.tmp x) E6 (En (.tmp h)) E6/\o.dst=En d/\o.guard=E6:=by
 unfold M1 at hh;split at hh
 .rename_i Y I h3;split at hh
  .rename_i hk;simp only[Ha,beq_iff_eq]at hk;obtain⟨⟨rfl,rfl⟩,rfl⟩:=hk;cases hh;exact⟨Y,I,h3⟩
  .cases hh
 .cases hh
theorem jko {x y d:Nat}{o:Oper}{t u:TypeId}(h:Tg x y d o=En (t,u)):∃c,o.op=.call c/\c.callee=.builtin .append/\c.args=#[.tmp x,.tmp y]/\c.argTypes=#[t,u]/\o.dst=En d/\o.guard=E6:=by
 unfold Tg at h;split at h
 .rename_i c _ Y I h3;split at h
  .rename_i h4 h5 h6;split at h
   .rename_i hk;simp only[Ha,beq_iff_eq]at hk;obtain⟨⟨rfl,rfl⟩,rfl⟩:=hk;cases h;exact⟨c,Y,h4,by apply Ic;simpa using h5,by apply Ic;simpa using h6,I,h3⟩
   .cases h
  .cases h
 .cases h
theorem jbx {o:Oper}{t e:TypeId}{x h:Nat}{b:Option Addr}{len cap n:Nat}(ho:o.op=.slice t (.tmp x) E6 (En (.tmp h)) E6)(ht:P.underlying t=En (.slice e)){sz:Nat}(hn:js P e=En sz)(M:a.eval (.tmp x)=.slice b len cap)(hh:a.eval (.tmp h)=.int .i64 (n:Int))(hle:n<=cap):
  (execOp a.eval o).run P w=.ok (.value (.slice (if cap=0 then b else b.map (·.add 0)) n cap)) w:=by
 have hb:(0:Int)<=n/\(n:Int)<=cap:=by omega
 simp[execOp,ho,Instr.sliceAt,Instr.slice,run_underlying ht,M,Instr.sliceBounds,hh,Instr.sliceBound,asIntOf,hle,yz hn]
theorem jsp {id nt:Nat}{ops:Array Oper}{sz:Nat}(hg:HF P nt ops=En sz)(m:aA P C ω w0 C0 hp w)(he:ar C ω w w0.heap.size env a.tmps)(db:a.tmps.size=nt)(yE:Marks C w0.heap.size a.defers){z k:Nat}{xs:List AVal}{o1 o2:Bool}
  (h0:jn 0 env=En (.list Hb z xs,o1)) (Y:jn 1 env=En (.int .i64 (.ofNat k),o2)) (hk0:0<k) (gN:k<=1073741824):
  (Code.region id ops H2).wpIn (jO ρ) 0 P (fun e a' w'=>e=.normal/\dy P w0 C0 C nt ⟨[(0,.list H2 sz [],Hb)],hp⟩ a' w') a w:=by
 unfold HF at hg;split at hg
 .rename_i t u oZ;split at hg
  .rename_i e kk ht hu;split at hg
   .rename_i i hi;split at hg
    .rename_i hc;cases hg;simp only[Ha,decide_eq_true_eq,Option.isSome_iff_exists,beq_iff_eq]at hc;obtain⟨⟨⟨⟨⟨⟨zv,hz⟩,NI⟩,UG⟩,hnt⟩,⟨zl,il⟩⟩,sx⟩:=hc
     have yF:js P e=En i.size:=by simp[js,hi]
     unfold jrm at oZ;split at oZ
     .rename_i p0 p1 p2 p3 p4 p5 p6 p7 p8 p9 UH;split at oZ
      .rename_i t2 t3 tt uu t7 t8 g2 g3 g5 g7 g8;split at oZ
       .rename_i dC;cases oZ;simp only[Ha,beq_iff_eq]at dC;obtain⟨⟨⟨⟨⟨⟨⟨⟨c0,c1⟩,c4⟩,c6⟩,c9⟩,x2⟩,x3⟩,x7⟩,x8⟩:=dC;replace x2:=x2.symm;replace x3:=x3.symm;replace x7:=x7.symm;replace x8:=x8.symm;subst x2;subst x3;subst x7;subst x8
        have I5:ops=#[p0,p1,p2,p3,p4,p5,p6,p7,p8,p9]:=by apply Ic;simpa using UH
        subst I5;obtain⟨v0,q0,r0,_⟩:=he 0 _ h0;obtain⟨v1,q1,r1,_⟩:=he 1 _ Y
        have iL:v0=.slice E6 0 0:=by
         rcases r0.cQ with⟨_,_,h⟩|⟨h,_⟩|⟨h,_⟩
         .exact h
         .cases h
         .cases h
        have oO:v1=.int .i64 (k:Int):=by cases r1;rfl
        subst iL;subst oO
        have hl:26<=a.tmps.size:=by omega
        have e0:a.eval (.tmp 0)=.slice E6 0 0:=by simp[Act.eval,H4,q0]
        have e1:a.eval (.tmp 1)=.int .i64 (k:Int):=by simp[Act.eval,H4,q1]
        obtain⟨O,a0d,a0g⟩:=NH c0;obtain⟨J,a1d,a1g⟩:=NH c1;obtain⟨cc2,a2,b2,b2a,b2t,a2d,a2g⟩:=jno g2;obtain⟨a3,a3d,a3g⟩:=q9c g3;obtain⟨a4,a4d,a4g⟩:=NH c4;obtain⟨cc5,a5,b5,b5a,b5t,a5d,a5g⟩:=jko g5;obtain⟨a6,a6d,a6g⟩:=NH c6;obtain⟨cc7,a7,b7,b7a,b7t,a7d,a7g⟩:=jpe g7;obtain⟨a8,a8d,a8g⟩:=q9c g8;obtain⟨a9,a9d,a9g⟩:=q8d c9;refine wpIn_region ?_;rw[show H9 (#[p0,p1,p2,p3,p4,p5,p6,p7,p8,p9]:Array Oper).size=[0,1,2,3,4,5,6,7,8,9]from rfl];refine uQ (o:=p0) rfl a0g a0d (by simp[O]) (v:=.slice E6 0 0) (w':=w) (by simp[execOp,O,e0]) ?_;refine uQ (o:=p1) rfl a1g a1d (by simp[J]) (v:=.slice E6 0 0) (w':=w) (by simp[execOp,J,pQ,e0]) ?_;refine uQ (o:=p2) rfl a2g a2d (by simp[a2]) (v:=.int .i64 0) (w':=w) ?_ ?_
        .have:(((a.put (En 17) (.slice E6 0 0)).put (En 18) (.slice E6 0 0))).eval (.tmp 18)=.slice E6 0 0:=wF (by rw[s6];omega);simp[execOp,a2,resolve,b2,b2a,b2t,invoke,builtin,Builtin.cap_,run_underlying ht,this,goInt]
        refine uQ (o:=p3) rfl a3g a3d (by simp[a3]) (v:=.slice E6 0 0) (w':=w) ?_ ?_
        .have pR:((((a.put (En 17) (.slice E6 0 0)).put (En 18) (.slice E6 0 0))).put (En 19) (.int .i64 0)).eval (.tmp 17)=.slice E6 0 0:=by
          rw[pQ (by omega),pQ (by omega),wF (by omega)]
         have yG:((((a.put (En 17) (.slice E6 0 0)).put (En 18) (.slice E6 0 0))).put (En 19) (.int .i64 0)).eval (.tmp 19)=.int .i64 ((0:Nat):Int):=by
          rw[wF (by rw[s6,s6];omega)];rfl
         have:=jbx (P:=P) (w:=w) (o:=p3) a3 ht yF pR yG (Jw 0);simpa using this
        refine uQ (o:=p4) rfl a4g a4d (by simp[a4]) (v:=.int .i64 (k:Int)) (w':=w) (by simp[execOp,a4,pQ,e1]) ?_
        have lh:=Lib.run_append_nil_zeros w t u p5.type e i zv .i64 kk ht hu hi hz k hk0 NI (by omega) (by
         have:k*i.bytes<=1073741824*4096:=Nat.mul_le_mul gN UG
         omega)
        refine uQ (o:=p5) rfl a5g a5d (by simp[a5]) (v:=.slice (En ⟨w.heap.size,0,E6⟩) k (grownCap w k 0 e)) (w':=w.drew.alloc (.cells (Builtin.zeroCells zv.cells k++Builtin.zeroCells zv.cells (grownCap w k 0 e-k)) e)) ?_ ?_
        .generalize hA:(((((a.put (En 17) (.slice E6 0 0)).put (En 18) (.slice E6 0 0)).put (En 19) (.int .i64 0)).put (En 20) (.slice E6 0 0)).put (En 21) (.int .i64 (k:Int)))=A
         have s7:A.eval (.tmp 20)=.slice E6 0 0:=by
          rw[<-hA,pQ (by omega),wF (by simp only[s6];omega)]
         have pe:A.eval (.tmp 21)=.int .i64 (k:Int):=by
          rw[<-hA,wF (by simp only[s6];omega)]
         simp[execOp,a5,resolve,b5,b5a,b5t,invoke,builtin,s7,pe,lh]
        generalize hW:w.drew.alloc (.cells (Builtin.zeroCells zv.cells k++Builtin.zeroCells zv.cells (grownCap w k 0 e-k)) e)=W;generalize hA:(((((a.put (En 17) (.slice E6 0 0)).put (En 18) (.slice E6 0 0)).put (En 19) (.int .i64 0)).put (En 20) (.slice E6 0 0)).put (En 21) (.int .i64 (k:Int)))=A
        have hA0:A.eval (.tmp 0)=.slice E6 0 0:=by rw[<-hA];simp only[pQ (show(21:Nat)≠0 by omega),pQ (show(20:Nat)≠0 by omega),pQ (show(19:Nat)≠0 by omega),pQ (show(18:Nat)≠0 by omega),pQ (show(17:Nat)≠0 by omega),e0]
        have hAs:A.tmps.size=a.tmps.size:=by rw[<-hA];simp only[s6]
        have hAd:A.defers=a.defers:=by rw[<-hA];rfl
        generalize hcp:grownCap w k 0 e=cp
        have hcap:k<=cp:=by rw[<-hcp];simpa using grownCap_ge w k 0 e
        refine uQ (o:=p6) rfl a6g a6d (by simp[a6]) (v:=.slice E6 0 0) (w':=W) (by simp[execOp,a6,pQ,hA0]) ?_;refine uQ (o:=p7) rfl a7g a7d (by simp[a7]) (v:=.int .i64 0) (w':=W) ?_ ?_
        .generalize hB:((A.put (En 22) (.slice (En ⟨w.heap.size,0,E6⟩) k cp)).put (En 23) (.slice E6 0 0))=B
         have pf:B.eval (.tmp 23)=.slice E6 0 0:=by
          rw[<-hB,wF (by rw[s6];omega)]
         simp[execOp,a7,resolve,b7,b7a,b7t,invoke,builtin,Builtin.len_,run_underlying ht,pf,goInt]
        refine uQ (o:=p8) rfl a8g a8d (by simp[a8]) (v:=.slice (En ⟨w.heap.size,0,E6⟩) 0 cp) (w':=W) ?_ ?_
        .generalize hB:(((A.put (En 22) (.slice (En ⟨w.heap.size,0,E6⟩) k cp)).put (En 23) (.slice E6 0 0)).put (En 24) (.int .i64 0))=B
         have nz:B.eval (.tmp 22)=.slice (En ⟨w.heap.size,0,E6⟩) k cp:=by
          rw[<-hB,pQ (by omega),pQ (by omega),wF (by omega)]
         have wG:B.eval (.tmp 24)=.int .i64 ((0:Nat):Int):=by
          rw[<-hB,wF (by simp only[s6];omega)];rfl
         have:=jbx (P:=P) (w:=W) (o:=p8) a8 ht yF nz wG (Nat.zero_le cp);rw[if_neg (by omega)]at this;simp only[Option.map_some,add_lit,Nat.add_zero]at this;exact this
        refine uQ (o:=p9) rfl a9g a9d (by simp[a9]) (v:=.slice (En ⟨w.heap.size,0,E6⟩) 0 cp) (w':=W) ?_ ?_
        .have wH:((((A.put (En 22) (.slice (En ⟨w.heap.size,0,E6⟩) k cp)).put (En 23) (.slice E6 0 0)).put (En 24) (.int .i64 0)).put (En 25) (.slice (En ⟨w.heap.size,0,E6⟩) 0 cp)).eval (.tmp 25)=.slice (En ⟨w.heap.size,0,E6⟩) 0 cp:=by
          rw[wF (by simp only[s6];omega)]
         simp[execOp,a9,wH]
        -- the end
        have hxd:=Ext.drew w;obtain⟨zs,zvr,I6,cR,gh⟩:=uv (C:=C) il
        have nU:zv.cells.size=i.size:=by
         have h3:zl.length=i.size:=by rw[il]at sx;simpa using sx
         have h4:=cR.length
         have h5:zvr=zv:=by
          have:=I6 w;simp[zeroValue,typeInfo,hi,hz]at this;exact this.symm
         subst h5;simp only[Array.length_toList]at h4;omega
        have ib:=Nc (d:=.slot 0) (tmps:=a.tmps) (m.ext hxd) (he.ext hxd) (Builtin.zeroCells zv.cells k++Builtin.zeroCells zv.cells (cp-k)) e [] i.size cp [] (by simpa using aM.nil) (by simp) (by simp) (by simp) (by simp) (by
         have hlen:∀n,(Builtin.zeroCells zv.cells n).size=n*i.size:=fun n=>by simp[Builtin.zeroCells,nU]
         rw[Array.size_append,hlen,hlen,<-Nat.add_mul]
         exact Nat.mul_le_mul_right _ (by omega)) E6
        rw[hcp]at hW;rw[hW]at ib;have hd0:w.drew.heap.size=w.heap.size:=rfl;rw[hd0]at ib;simp only[List.length_nil]at ib;clear hW hA0 I6 cR;generalize hB:(((A.put (En 22) (.slice (En ⟨w.heap.size,0,E6⟩) k cp)).put (En 23) (.slice E6 0 0)).put (En 24) (.int .i64 0)).put (En 25) (.slice (En ⟨w.heap.size,0,E6⟩) 0 cp)=B
        have hBs:B.tmps.size=a.tmps.size:=by rw[<-hB];simp only[s6];omega
        have hBd:B.defers=a.defers:=by rw[<-hB,<-hAd];rfl
        obtain⟨C',ω',k1,k2,k3,k4,k5⟩:=ib
        have mW:dy P w0 C0 C nt ⟨[(0,.list H2 i.size [],Hb)],hp⟩ (B.put (En 0) (.slice (En ⟨w.heap.size,0,E6⟩) 0 cp)) W:=by
         refine⟨by rw[s6];omega,C',ω',k1,?_,k2,?_⟩
         .rw[show(B.put (En 0) (.slice (En ⟨w.heap.size,0,E6⟩) 0 cp)).defers=B.defers from rfl,hBd];exact yE.mono k1
         .intro s x M;simp only[jn]at M
          cases hb:Ig 0 s with
          |false=>simp[hb]at M
          |true=>
           have:=Hc hb;subst this;simp only[hb,cond_true,En.injEq]at M;subst M;exact⟨_,by simp only[Act.put];rw[Array.getElem?_setIfInBounds_self_of_lt (by omega)],k4,k5⟩
        simp only[wpOpsIn];exact⟨trivial,mW⟩
       .cases oZ
      .cases oZ
     .cases oZ
    .cases hg
   .cases hg
  .cases hg
 .cases hg
end
def fQ (ρ:Option Nat)(P:Program)(c:Code)(aaj:Exit->Act->World->Prop)(a:Act)(w:World):Prop:=
 ∀(b:Frame) (k:List Item) (cs:List Frame),b.roundOf=(jO ρ).round->(jO ρ).fn b.fn->(jO ρ).room (cs.length+1+0) ->
  ∃e a' w',aaj e a' w'/\ArrivesIn (Machine.fenced P (jO ρ)) P (lone (b.atR a (.code c::.inLoop c::k)) cs w) b k cs e a' w'
theorem fQ.wpIn {ρ P c aaj a w}(h:fQ ρ P c aaj a w):(Code.loop c).wpIn (jO ρ) 0 P aaj a w:=by
 intro b k cs yH hb Q;obtain⟨e,a',w',hq,fg⟩:=h b k cs yH hb Q;exact⟨e,a',w',hq,.of_steps (.one (fenced_calm hb Q rfl) stepR_loop) fg⟩
theorem fQ.wI {ρ P c aaj a w}(h:c.wpIn (jO ρ) 0 P (Exit.then (fQ ρ P c aaj) aaj) a w):fQ ρ P c aaj a w:=by
 intro b k cs yH hb Q;obtain⟨e,a₁,w₁,hq,fg⟩:=h b (.inLoop c::k) cs yH hb Q
 cases e with
 |normal=>
  obtain⟨e₂,a₂,w₂,I7,wJ⟩:=hq b k cs yH hb Q;exact⟨e₂,a₂,w₂,I7,.of_steps (StepsIn.trans fg (.one (fenced_calm hb Q rfl) stepR_inLoop)) wJ⟩
 |exit id=>exact⟨_,a₁,w₁,hq,.pass (x:=.inLoop c) rfl (fun _ _=>.inl (by simp)) fg⟩|goto l=>exact⟨_,a₁,w₁,hq,.pass (x:=.inLoop c) rfl (fun _ _=>.inl (by simp)) fg⟩|ret=>exact⟨_,a₁,w₁,hq,.pass (x:=.inLoop c) rfl (fun _ _=>.inl (by simp)) fg⟩|panic ch=>exact⟨_,a₁,w₁,hq,.pass (x:=.inLoop c) rfl (fun _ _=>.inl (by simp)) fg⟩|outgrown=>exact⟨_,a₁,w₁,hq,.pass (x:=.inLoop c) rfl (fun _ _=>.inl (by simp)) fg⟩
section
variable {P:Program}{p:j8}{xc:XC}
def NJ (P:Program)(w0:World)(C0 C:aQ)(nt:Nat)(x:jb)(bP:bn):Exit->Act->World->Prop:=fun e a' w'=>e=Bb x/\dy P w0 C0 C nt bP a' w'
def jca (P:Program)(xc:XC):Prop:=
 ∀(ρ:Option Nat) (nt:Nat) (c:Code) (ca:aV) (st bP:bn) (x:jb),HI P nt c ca->(ρ≠E6->zx ca=Hb)->xc ca st=En (x,bP) ->
  ∀(C:aQ) (w0:World) (C0:aQ) (a:Act) (w:World),dy P w0 C0 C nt st a w->c.wpIn (jO ρ) 0 P (NJ P w0 C0 C nt x bP) a w
theorem cJ.I8 (h:jca P xc):cJ P xc:=
 fun ρ nt c ca st bP x hc hn M C ω w0 C0 a w m he db lJ=>wpIn_mono (h ρ nt c ca st bP x hc hn M C w0 C0 a w ⟨db,C,ω,aQ.le_refl C,lJ,m,he⟩) fun _ _ _ hq=>hq
def jg4 (P:Program)(xc:XC):Prop:=
 ∀(ρ:Option Nat) (nt:Nat) (c:Code) (ca:aV) (st bP:bn) (x:jb),HI P nt c ca->(ρ≠E6->zx ca=Hb)->xc (.loop ca) st=En (x,bP) ->
  ∀(C:aQ) (w0:World) (C0:aQ) (a:Act) (w:World),dy P w0 C0 C nt st a w->fQ ρ P c (NJ P w0 C0 C nt x bP) a w
theorem dy.gc {w0 C0 C nt n st a w}(h:dy P w0 C0 C nt st a w)(hC:∀b r,C.β b=En r->b<n)(UI:∀b r,C0.β b=En r->b<n):dy P w0 C0 C nt (Abs.gc n st) a w:=by
 unfold Abs.gc
 cases hb:Ix st.heap.length n with
 |true=>exact h
 |false=>
  simp only[cond_false]
  cases nx:(mF n st.env&&qr n (st.heap.take n))with
  |false=>exact h
  |true=>
   simp only[cond_true];simp only[Ha]at nx;obtain⟨Y,C',ω',h3,I,h4,h5⟩:=h
   have hn:n<=st.heap.length:=by
    rcases Nat.lt_or_ge n st.heap.length with h|h
    .omega
    .rw[Nat.ble_eq_true_of_le h]at hb;cases hb
   exact⟨Y,C'.cut n,ω',aQ.iY h3 hC,⟨I.choose,I.choose_spec.1,I.choose_spec.2.1,I.choose_spec.2.2⟩,h4.gc hn nx.2 UI,h5.cut nx.1⟩
theorem NK {K w0 C0 C nt x bP aaj e a w}(h:NJ P w0 C0 C nt x bP e a w)(hn:x=.normal->dy P w0 C0 C nt bP a w->K a w)(ho:x≠.normal->dy P w0 C0 C nt bP a w->aaj (Bb x) a w):Exit.then K aaj e a w:=by
 obtain⟨rfl,h⟩:=h
 cases x with
 |normal=>exact hn rfl h|exit id=>exact ho (by simp) h|ret=>exact ho (by simp) h
theorem jaw {b:Frame}{a k cs w c}:step P (lone (b.atR a (.code (.scope c)::k)) cs w)=.next (lone (b.atR a (.code c::.inScope c::k)) cs w):=
 step_lone_go (by simp[stepG,stepG.exec,Frame.atR])
theorem q48 {b:Frame}{a k cs w c}:step P (lone (b.atR a (.inScope c::k)) cs w)=.next (lone (b.atR a k) cs w):=
 step_lone_go (by simp[stepG,stepG.exec,Frame.atR])
theorem qr9 {F:Fence}{n c aaj a w}(h:c.wpIn F n P (Exit.noGoto aaj) a w):(Code.scope c).wpIn F n P aaj a w:=by
 intro b k cs yH hb Q;obtain⟨e,a₁,w₁,hq,fg⟩:=h b (.inScope c::k) cs yH hb Q;have Y:StepsIn (Machine.fenced P F) P (lone (b.atR a (.code (.scope c)::k)) cs w) (lone (b.atR a (.code c::.inScope c::k)) cs w):=.one (fenced_calm hb Q rfl) jaw
 cases e with
 |normal=>exact⟨.normal,a₁,w₁,hq,StepsIn.trans Y (StepsIn.trans fg (.one (fenced_calm hb Q rfl) q48))⟩|goto l=>exact hq.elim
 |exit id=>
  refine⟨.exit id,a₁,w₁,hq,.of_steps Y ?_⟩;refine⟨fun k' hk=>fg.1 k' (by simp[exitTo,hk]),fun UJ iZ=>?_⟩;exact fg.2 UJ (by simp[exitTo,iZ])
 |ret=>exact⟨_,a₁,w₁,hq,.of_steps Y fg⟩|panic ch=>exact⟨_,a₁,w₁,hq,.of_steps Y fg⟩|outgrown=>exact⟨_,a₁,w₁,hq,.of_steps Y fg⟩
theorem aA.UK {C C0 ω w0 w hp}(m:aA P C ω w0 C0 hp w):aA P { C with D:=fun r=>C.D r\/r=w.heap.size } ω w0 C0 hp (w.alloc (.deferred (En []))):=by
 have M:Ext w (w.alloc (.deferred (En []))):=Ext.alloc w _ (fun c t fr h=>by cases h);have m':=m.ext M
 exact { m' with
  fA:=fun r Q=>by
   rcases Q with Q|Q
   ·exact m'.fA r Q
   ·subst Q;rw[vZ,if_pos rfl]
  grown:=⟨m.grown.k,m.grown.b,m.grown.w,fun r h=>.inl (m.grown.d r h),m.grown.t⟩
  box:=fun b x r fp hb=>bM.imp (C:=C) (C':={ C with D:=fun r=>C.D r\/r=w.heap.size }) ⟨fun _ _ _ h=>h,fun _ _ h=>h⟩ rfl (fun _ _ _ ho=>ho) (m'.box b x r fp hb) }
theorem jnn (eP:bX P p)(M:cJ P xc){f ps x1 x2 f' J a2 h nt st bP x C w0 C0 a w}
  (hf:qq f=En f') (Y:hM P h nt x1=En J) (I:hM P h nt x2=En a2) (cH:∀t∈ps.toList,t<nt) (G:mb p xc f' ps.toList J a2 st=En (x,bP)) (ct:dy P w0 C0 C nt st a w):
  (Code.rangeFunc f ps x1 x2).wpIn (jO E6) 0 P (NJ P w0 C0 C nt x bP) a w:=by
 obtain⟨db,Ca,ω,hle,yE,m,he⟩:=ct;unfold mb at G
 cases NL:(zx J&&zx a2)with
 |false=>simp[NL]at G
 |true=>
  simp only[NL,cond_true]at G;simp only[Ha]at NL;split at G
  .rename_i k first captured eR
   have x9:=qt he.cw hf eR;generalize IC:a.eval f=fv at x9
   cases x9 with
   |fn g g' _ _ as bs hg ha hb=>
    simp only[fJ]at hg;subst hg;split at G
    .rename_i _r1 _r2 h' IA;split at G
     .rename_i l' Ia
      cases iq:qr st.heap.length (h'.take st.heap.length)with
      |false=>simp[iq]at G
      |true=>
       simp only[iq,cond_true]at G
       .obtain⟨mR,n8⟩:=Iz eP M IA
        -- the loop's record,and the block before it
        refine wpIn_rangeFunc fun fn _=>?_;generalize hlp:({ state:=.ready,pending:=E6,fn:=fn,tmps:=a.tmps,params:=ps,assign:=x1,body:=x2,defers:=w.heap.size }:Loop)=lp;have mD:=(m.UK).holes 1
        have eD:ar { Ca with D:=fun r=>Ca.D r\/r=w.heap.size } ω (w.alloc (.deferred (En []))) w0.heap.size st.env a.tmps:=fun s y hy=>
         let ⟨v,k1,k2,k3⟩:=he.ext (Ext.alloc w _ (fun c t fr h=>by cases h)) s y hy
         ⟨v,k1,bS.sP k2,k3⟩
        have I9:(st.heap++J2 1 .hole)[st.heap.length]?=En .hole:=by simp
        have Ja:(w.alloc (.deferred (En []))).heap.size=w.heap.size+1:=by rw[World.size_alloc]
        obtain⟨mB,eB,oc⟩:=mD.aO eD I9 (.loop lp) (fun c t fr h=>by cases h) (.loop ⟨st.env,ps.toList,J,a2,E6⟩) (by
         intro C' ω' w' cU Nx;subst hlp
         exact⟨_,Nx,{ assign:=⟨h,by rw[db];exact Y⟩,body:=⟨h,by rw[db];exact I⟩,params:=rfl,fits:=fun t ht=>by rw[db];exact cH t ht,nr:=NL,env:=fun s y hy=>let ⟨v,k1,k2,_⟩:=eD s y hy; ⟨v,k1,aM.mono cU k2⟩,state:=rfl,pending:=rfl }⟩)
        have bK:(st.heap++J2 1 aK.hole).set st.heap.length (.loop ⟨st.env,ps.toList,J,a2,E6⟩)=st.heap++[.loop ⟨st.env,ps.toList,J,a2,E6⟩]:=by
         simp
        rw[bK]at mB;rw[Ja]at mB eB oc;generalize hCB:aQ.box { Ca with D:=fun r=>Ca.D r\/r=w.heap.size } st.heap.length (w.heap.size+1)=CB at mB eB oc;generalize hwB:(w.alloc (.deferred (En []))).alloc (.loop lp)=wB at mB eB
        have Jb:CB.β st.heap.length=En (w.heap.size+1):=by rw[<-hCB];simp[aQ.box]
        have hDB:∀r,Ca.D r\/r=w.heap.size->CB.D r:=fun r Q=>by rw[<-hCB];exact Q
        have hKB:∀ {i:mc},aM Ca i->aM CB i:=fun Q=>aM.mono oc (aM.imp (C:=Ca) (C':={ Ca with D:=fun r=>Ca.D r\/r=w.heap.size }) ⟨fun _ _ _ h=>h,fun _ _ h=>h⟩ Q);have Jc:Ca.le CB:=⟨oc.k,oc.b,oc.w,fun r Q=>hDB r (.inl Q),oc.t⟩
        have eA:bj (CB.shared ω w0) (first++[.fn (.yield st.heap.length) [] []]++captured) (as++[Value.func (.yield (w.heap.size+1)) ⟨[]⟩ ⟨[]⟩]++bs):=by
         refine aM.imp (C:=CB) (C':=CB.shared ω w0) ⟨fun _ _ _ h=>h,fun _ _ h=>h⟩ ?_;exact bj.append (bj.append (hKB ha) (.cons _ _ _ _ (.fn _ _ _ _ _ _ ⟨_,Jb,rfl⟩ .nil .nil) .nil)) (hKB hb)
        refine⟨w.heap.size+1,[{ target:=.collected w.heap.size,args:=#[] }],wB,{ target:=.fn (.func k) ⟨bs⟩,args:=⟨as⟩++#[Value.func (.yield (w.heap.size+1)) #[] #[]] },wB,k,⟨as++[Value.func (.yield (w.heap.size+1)) ⟨[]⟩ ⟨[]⟩]++bs⟩,wB,?_,?_,fun _ _=>trivial,?_,fun hd=>by simp[jO,Fence.wide]at hd,?_⟩
        .subst hlp;rw[<-hwB];simp[Instr.enterLoop,jO,Fence.wide,Ja]
        .have hc:a.eval (.const (Value.func (.yield (w.heap.size+1)) #[] #[]))=Value.func (.yield (w.heap.size+1)) #[] #[]:=rfl;simp[resolve,IC,Deferred.ofValue,hc]
        .have hq:(⟨as⟩:Array Value)++#[Value.func (.yield (w.heap.size+1)) #[] #[]]++(⟨bs⟩:Array Value)=⟨as++[Value.func (.yield (w.heap.size+1)) ⟨[]⟩ ⟨[]⟩]++bs⟩:=by
          apply Ic;simp
         simp only[invoke,hq];exact qsc mR _ _
        .refine q0o.2 (CallsIn.mono (n8 _ _ _ _ eA (Ue mB)) ?_);rintro ee w' ⟨u,C1,ω1,rfl,q1,q2,_,_⟩;obtain⟨m2,e2⟩:=qwm mB eB q2 q1;have Bo:CB.le (C1.back CB):=Ny q1;have sU:(C1.back CB).β st.heap.length=En (w.heap.size+1):=Bo.b _ _ Jb;obtain⟨mS,sV,uP⟩:=NA m2 Ia sU;have hlen:st.heap.length<h'.length:=(m2.lt _ _ sU).2;have UI:∀b r,C0.β b=En r->b<st.heap.length:=fun b r hb=>(m.lt b r (m.grown.b b r hb)).2;have m3:=m2.gc (Nat.le_of_lt hlen) iq UI
         have Bg:(Instr.getLoop (w.heap.size+1)).run P w'=.ok mS w':=by simp[Instr.getLoop,rn sV (by simp)]
         have s5:=(Io.1 sV).1;have hu:nZ w' (ko w' (w.heap.size+1) (.loop { mS with state:=.exhausted })) (w.heap.size+1):=FD s5 (by simp)
         have mg:∀cs t fr,w'.heap[w.heap.size+1]?≠En (.cells cs t fr):=fun cs t fr hh=>by rw[sV]at hh;cases hh
         have UL:∀b,((C1.back CB).cut st.heap.length).β b≠En (w.heap.size+1):=fun b hb=>by
          simp only[aQ.cut]at hb;split at hb
          .rename_i bg;have:=m2.inj b st.heap.length _ hb sU;omega
          .cases hb
         have da:mS.state≠.busy->(Instr.endLoop (w.heap.size+1)).run P w'=.ok mS.pending (ko w' (w.heap.size+1) (.loop { mS with state:=.exhausted })):=fun FI=>by
          have fq:(mS.state == .busy)=H2:=by
           cases ct:mS.state<;>first|rfl|exact absurd ct FI
          have hs2:=xY (P:=P) (x:=.loop { mS with state:=.exhausted }) sV (by simp);simp only[Instr.endLoop,Sem.run_bind,Bg,Result.andThen_ok,fq,Bool.false_eq_true,if_false,Sem.run_ite,hs2,Sem.run_pure]
         have m4:=m3.other (D':=((C1.back CB).cut st.heap.length).D) hu UL (Nat.le_trans m.size (by omega)) mg (fun kk hk=>⟨hk,fun iy=>by
          have:=m3.fA kk hk
          rw[iy,sV]at this;cases this⟩) m3.grown.d
         have Bp:Ca.le ((C1.back CB).cut st.heap.length):=aQ.iY (aQ.le_trans Jc Bo) (fun b r hb=>(m.lt b r hb).2)
         have e4:ar ((C1.back CB).cut st.heap.length) (n9 ω ω1 wB.heap.size) (ko w' (w.heap.size+1) (.loop { mS with state:=.exhausted })) w0.heap.size st.env a.tmps:=by
          intro s y hy;obtain⟨v,k1,k2,k3⟩:=he s y hy;obtain⟨v',j1,j2,j3⟩:=e2 s y hy;rw[k1]at j1;cases j1;exact⟨v,k1,aM.mono Bp k2,fun hh=>(((j3 hh).cut _).lI (D':=((C1.back CB).cut st.heap.length).D) hu mg)⟩
         have mW:∀(xx:jb),dy P w0 C0 C nt { st with heap:=h'.take st.heap.length } { a with defers:=[{ target:=.collected w.heap.size,args:=#[] }]++a.defers } (ko w' (w.heap.size+1) (.loop { mS with state:=.exhausted })):=by
          intro _;refine⟨db,_,_,aQ.le_trans hle Bp,?_,m4,e4⟩;obtain⟨rs,g1,g2,g3⟩:=yE;refine⟨w.heap.size::rs,by rw[g1];rfl,List.nodup_cons.2 ⟨fun hm=>?_,g2⟩,?_⟩
          .have:=(Io.1 (m.fA _ (g3 _ hm).1)).1;omega
          .intro r Q;rcases Le.1 Q with rfl|Q
           .exact⟨Bo.d _ (hDB _ (.inr rfl)),m.size⟩
           .exact⟨Bp.d _ (g3 r Q).1,(g3 r Q).2⟩
         simp only[rangePost];split at G
         .rename_i wK;cases G;refine⟨E6,_,?_,rfl,mW .normal⟩;rw[da (by rw[uP.state,wK];simp),uP.pending,wK]
         .cases G
         .rename_i xx TI wK;cases G
          cases x with
          |normal=>exact absurd rfl TI
          |ret=>
           refine⟨En .ret,_,?_,wpIn_ret ⟨rfl,mW .ret⟩⟩;rw[da (by rw[uP.state,wK];simp),uP.pending,wK]
          |exit id=>
           refine⟨En (.exit id),_,?_,wpIn_exit ⟨rfl,mW .ret⟩⟩;rw[da (by rw[uP.state,wK];simp),uP.pending,wK]
     .cases G
    .cases G
  .cases G
theorem NM (eP:bX P p):∀n,jca P (aC p n)/\jg4 P (aC p n)
 |0=>⟨fun ρ nt c ca st bP x _ _ M=>by simp[aC]at M,fun ρ nt c ca st bP x _ _ M=>by simp[aC]at M⟩
 |n+1=>by
  obtain⟨ih,ihl⟩:=NM eP n
  have loop:jg4 P (aC p (n+1)):=by
   intro ρ nt c ca st bP x hc hn M C w0 C0 a w ct;obtain⟨db,C',ω',hle,lJ,m,he⟩:=ct;have hC':∀b r,C'.β b=En r->b<st.heap.length:=fun b r hb=>(m.lt b r hb).2;refine fQ.wI ?_;simp only[aC]at M;split at M
   .rename_i fR Y;refine wpIn_mono (ih ρ nt c ca st fR .normal hc hn Y C' w0 C0 a w ⟨db,C',ω',aQ.le_refl _,lJ,m,he⟩) ?_;intro e a' w' hq;refine NK hq (fun _ eK=>?_) (fun h=>absurd rfl h);have I:=eK.gc hC' (fun b r hb=>hC' b r (m.grown.2 b r hb));have h3:=ihl ρ nt c ca _ bP x hc hn M C' w0 C0 a' w' I;intro b k cs yH hb Q;obtain⟨e,a',w',hq,fg⟩:=h3 b k cs yH hb Q;obtain⟨q1,q2,C2,ω2,q4,q5⟩:=hq;exact⟨e,a',w',⟨q1,q2,C2,ω2,aQ.le_trans hle q4,q5⟩,fg⟩
   .rename_i bG;refine wpIn_mono (ih ρ nt c ca st bP x hc hn M C w0 C0 a w ⟨db,C',ω',hle,lJ,m,he⟩) ?_;intro e a' w' hq;refine NK hq (fun FT eK=>?_) (fun FT eK=>⟨rfl,eK⟩);subst FT;exact absurd M (bG bP)
  refine⟨?_,loop⟩;intro ρ nt c ca st bP x hc hn M C w0 C0 a w ct;obtain⟨h,dC⟩:=hc
  cases c with
  |skip=>
   simp only[hM,En.injEq]at dC;subst dC;simp only[aC,En.injEq,Iq.injEq]at M;obtain⟨rfl,rfl⟩:=M;exact wpIn_skip ⟨rfl,ct⟩
  |label l=>
   simp only[hM,En.injEq]at dC;subst dC;simp only[aC,En.injEq,Iq.injEq]at M;obtain⟨rfl,rfl⟩:=M;exact wpIn_label ⟨rfl,ct⟩
  |region id ops draw=>
   simp only[hM]at dC
   have dC:(draw=H2/\∃sz,HF P nt ops=En sz/\ca=.grow sz)\/HE P h nt id ops draw=En ca:=by
    split at dC
    .rename_i sz UM;cases dC;exact .inl ⟨rfl,sz,UM,rfl⟩
    .exact .inr dC
   rcases dC with⟨rfl,sz,UM,rfl⟩|dC
   .simp only[aC]at M;split at M
    .rename_i z xs o1 k o2 e0 e1
     cases iy:(Jx 0 k&&Ix k 1073741824)with
     |false=>simp[iy]at M
     |true=>
      simp only[iy,cond_true,En.injEq,Iq.injEq]at M;obtain⟨rfl,rfl⟩:=M;simp only[Ha]at iy;obtain⟨db,C',ω',hle,lJ,m,he⟩:=ct;refine wpIn_mono (jsp UM m he db lJ e0 e1 (Nat.blt_eq.mp iy.1) (Nat.le_of_ble_eq_true iy.2)) ?_;rintro e a' w' ⟨rfl,q1,C2,ω2,q4,q5⟩;exact⟨rfl,q1,C2,ω2,aQ.le_trans hle q4,q5⟩
    .cases M
   have Jd:∃na l keep,ca=.region na l keep:=by
    unfold HE at dC;split at dC
    .split at dC
     .simp only[En.injEq]at dC;exact⟨_,_,_,dC.symm⟩
     .cases dC
    .cases dC
   obtain⟨na,l,keep,ep⟩:=Jd;subst ep;simp only[aC]at M;obtain⟨db,C',ω',hle,lJ,m,he⟩:=ct;refine wpIn_mono (ji6 eP (cJ.I8 ih) dC rfl M m he db lJ) ?_;rintro e a' w' ⟨q1,q2,C2,ω2,q4,q5⟩;exact⟨q1,q2,C2,ω2,aQ.le_trans hle q4,q5⟩
  |seq c1 c2=>
   simp only[hM]at dC;split at dC
   .rename_i x1 x2 Y I;cases dC
    have FU:ρ≠E6->zx x1=Hb/\zx x2=Hb:=fun hh=>by simpa[zx]using hn hh
    simp only[aC]at M;refine wpIn_seq ?_;split at M
    .rename_i fR x6;refine wpIn_mono (ih ρ nt c1 x1 st fR .normal ⟨h,Y⟩ (fun hh=>(FU hh).1) x6 C w0 C0 a w ct) ?_;intro e a' w' hq;exact NK hq (fun _ eK=>ih ρ nt c2 x2 fR bP x ⟨h,I⟩ (fun hh=>(FU hh).2) M C w0 C0 a' w' eK) (fun hh=>absurd rfl hh)
    .rename_i bG;refine wpIn_mono (ih ρ nt c1 x1 st bP x ⟨h,Y⟩ (fun hh=>(FU hh).1) M C w0 C0 a w ct) ?_;intro e a' w' hq;refine NK hq (fun FT eK=>?_) (fun FT eK=>⟨rfl,eK⟩);subst FT;exact absurd M (bG bP)
   .cases dC
  |cond c c1 c2=>
   simp only[hM]at dC;split at dC
   .rename_i c' x1 x2 h0 Y I;cases dC
    have FU:ρ≠E6->zx x1=Hb/\zx x2=Hb:=fun hh=>by simpa[zx]using hn hh
    simp only[aC]at M;split at M
    .rename_i t ht;have iz:=ct;obtain⟨db,C',ω',hle,lJ,m,he⟩:=ct;have eR:=(qt he.cw h0 ht).dq;refine wpIn_cond eR ?_
     cases t with
     |true=>simp only[cond_true]at M;exact ih ρ nt c1 x1 st bP x ⟨h,Y⟩ (fun hh=>(FU hh).1) M C w0 C0 a w iz|false=>simp only[cond_false]at M;exact ih ρ nt c2 x2 st bP x ⟨h,I⟩ (fun hh=>(FU hh).2) M C w0 C0 a w iz
    .cases M
   .cases dC
  |block id b=>
   simp only[hM]at dC;obtain⟨b',hb,rfl⟩:=Ik.1 dC;simp only[aC]at M;refine wpIn_block ?_;split at M
   .rename_i fI fR x6;refine wpIn_mono (ih ρ nt b b' st fR (.exit fI) ⟨h,hb⟩ (fun hh=>by simpa[zx]using hn hh) x6 C w0 C0 a w ct) ?_;rintro e a' w' ⟨rfl,eK⟩
    cases hid:Ig fI id with
    |true=>
     simp only[hid,cond_true,En.injEq,Iq.injEq]at M;obtain⟨rfl,rfl⟩:=M;have:=Hc hid;subst this;simp only[Bb,Exit.inBlock,if_true];exact⟨rfl,eK⟩
    |false=>
     simp only[hid,cond_false,En.injEq,Iq.injEq]at M;obtain⟨rfl,rfl⟩:=M
     have bG:¬fI=id:=fun hh=>by subst hh;simp at hid
     simp only[Bb,Exit.inBlock,bG,if_false];exact⟨rfl,eK⟩
   .rename_i bG;refine wpIn_mono (ih ρ nt b b' st bP x ⟨h,hb⟩ (fun hh=>by simpa[zx]using hn hh) M C w0 C0 a w ct) ?_;rintro e a' w' ⟨rfl,eK⟩
    cases x with
    |normal=>exact⟨rfl,eK⟩|ret=>exact⟨rfl,eK⟩|exit fI=>exact absurd M (bG fI bP)
  |loop b=>
   simp only[hM]at dC;obtain⟨b',hb,rfl⟩:=Ik.1 dC;exact(loop ρ nt b b' st bP x ⟨h,hb⟩ (fun hh=>by simpa[zx]using hn hh) M C w0 C0 a w ct).wpIn
  |scope b=>
   simp only[hM]at dC;obtain⟨b',hb,rfl⟩:=Ik.1 dC
   have fp:aC p n b' st=En (x,bP):=by
    simp only[aC]at M;split at M
    .rename_i fR x6
     cases n with
     |zero=>simp[aC]at x6|succ n=>simp only[aC]at M;rw[x6];exact M
    .exact M
   refine qr9 (wpIn_mono (ih ρ nt b b' st bP x ⟨h,hb⟩ (fun hh=>by simpa[zx]using hn hh) fp C w0 C0 a w ct) ?_);rintro e a' w' ⟨rfl,eK⟩
   cases x with
   |normal=>exact⟨rfl,eK⟩|exit id=>exact⟨rfl,eK⟩|ret=>exact⟨rfl,eK⟩
  |rangeFunc f ps x1 x2=>
   simp only[hM]at dC;split at dC
   .split at dC
    .rename_i cH;cases dC;simp only[aC]at M
     cases ρ with
     |some l=>exact absurd (hn (by simp)) (by simp[zx])|none=>exact jnn eP (cJ.I8 ih) (by assumption) (by assumption) (by assumption) (fun t ht=>by simpa using(Array.all_eq_true'.1 cH) t (by simpa using ht)) M ct
    .cases dC
   .cases dC
  |exit id=>
   simp only[hM,En.injEq]at dC;subst dC;simp only[aC,En.injEq,Iq.injEq]at M;obtain⟨rfl,rfl⟩:=M;exact wpIn_exit ⟨rfl,ct⟩
  |ret=>
   simp only[hM,En.injEq]at dC;subst dC;simp only[aC,En.injEq,Iq.injEq]at M;obtain⟨rfl,rfl⟩:=M;exact wpIn_ret ⟨rfl,ct⟩
  |_=>
   simp only[hM,En.injEq]at dC;subst dC;simp[aC]at M
theorem jc1 (eP:bX P p){n k args v ow}(h:ae p (aC p n) k args=En (v,ow))(hb:qo 0 args=Hb):IsoCall P k args v ow:=
 (Nv eP (cJ.I8 (NM eP n).1) h hb).2.2
end
def yu {α:Type}(n:Nat)(f:Nat->α):α:=match n with
 |0=>f 0|m+1=>f (Nat.succ m)
def UN {α:Type}(n:Int)(f:Int->α):α:=match n with
 | .ofNat a=>yu a fun a=>f (.ofNat a)
 | .negSucc a=>yu a fun a=>f (.negSucc a)
def Je {α:Type}(b:Bool)(f:Bool->α):α:=match b with
 |true=>f Hb|false=>f H2
def q3x {α:Type}(k:IntKind)(f:IntKind->α):α:=match k with
 | .i8=>f .i8 | .i16=>f .i16 | .i32=>f .i32 | .i64=>f .i64 | .u8=>f .u8 | .u16=>f .u16 | .u32=>f .u32 | .u64=>f .u64
def Jf {α:Type}:aj->(aj->α)->α
 | [],f=>f []
 |c::s,f=>Jf s fun s=>f (c::s)
def UO {α:Type}(g:Fn)(f:Fn->α):α:=match g with
 | .func k=>yu k fun k=>f (.func k)
 | .yield k=>yu k fun k=>f (.yield k)
 |g=>f g
mutual
def ic {α:Type}:AVal->(AVal->α)->α
 | .bool b,f=>Je b fun b=>f (.bool b)
 | .int k n,f=>q3x k fun k=>UN n fun n=>f (.int k n)
 | .str s,f=>Jf s fun s=>f (.str s)
 | .list b sz xs,f=>Je b fun b=>yu sz fun sz=>wL xs fun xs=>f (.list b sz xs)
 | .ms b o l,f=>yu b fun b=>yu o fun o=>yu l fun l=>f (.ms b o l)
 | .ptr b o,f=>yu b fun b=>yu o fun o=>f (.ptr b o)
 | .aq v,f=>ic v fun v=>f (.aq v)
 | .cW n,f=>yu n fun n=>f (.cW n)
 | .b6,f=>f .b6
 | .map b,f=>yu b fun b=>f (.map b)
 | .b8,f=>f .b8
 | .fn g a c,f=>UO g fun g=>wL a fun a=>wL c fun c=>f (.fn g a c)
 | .cu,f=>f .cu
 | .agg cs,f=>wL cs fun cs=>f (.agg cs)
 | .aJ cs,f=>wL cs fun cs=>f (.aJ cs)
 | .undef,f=>f .undef| .any,f=>f .any
 | .ay b bN len,f=>yu b fun b=>yu bN fun bN=>yu len fun len=>f (.ay b bN len)
 | .dT b bN off,f=>yu b fun b=>yu bN fun bN=>yu off fun off=>f (.dT b bN off)
def wL {α:Type}:List AVal->(List AVal->α)->α
 | [],f=>f []
 |x::xs,f=>ic x fun x=>wL xs fun xs=>f (x::xs)
end
def Jg {α:Type}:Env->(Env->α)->α
 | [],f=>f []
 |(t,v,o)::e,f=>yu t fun t=>ic v fun v=>Je o fun o=>Jg e fun e=>f ((t,v,o)::e)
def NN {α:Type}:List (AVal×Bool)->(List (AVal×Bool)->α)->α
 | [],f=>f []
 |(v,o)::e,f=>ic v fun v=>Je o fun o=>NN e fun e=>f ((v,o)::e)
def NP {α:Type}:List (AVal×AVal)->(List (AVal×AVal)->α)->α
 | [],f=>f []
 |(k,v)::e,f=>ic k fun k=>ic v fun v=>NP e fun e=>f ((k,v)::e)
def UQ {α:Type}(x:Option jb)(f:Option jb->α):α:=match x with
 |none=>f E6|some .normal=>f (En .normal)
 |some (.exit id)=>yu id fun id=>f (En (.exit id))
 |some .ret=>f (En .ret)
def UR {α:Type}:aK->(aK->α)->α
 | .hole,f=>f .hole
 | .cells cs,f=>NN cs fun cs=>f (.cells cs)
 | .map es,f=>NP es fun es=>f (.map es)
 | .iter s pos,f=>yu pos fun pos=>f (.iter s pos)
 | .fZ t e l,f=>Jf l fun l=>f (.fZ t e l)
 | .dead,f=>f .dead
 -- (what a vector holds was forced when it was appended)
 | .vec sz bN xs,f=>yu sz fun sz=>yu bN fun bN=>f (.vec sz bN xs)
 | .loop l,f=>Jg l.env fun e=>UQ l.pending fun x=>f (.loop ⟨e,l.params,l.assign,l.body,x⟩)
def NQ {α:Type}:qf->(qf->α)->α
 | [],f=>f []
 |b::h,f=>UR b fun b=>NQ h fun h=>f (b::h)
def Jh {α:Type}(st:bn)(f:bn->α):α:=Jg st.env fun e=>NQ st.heap fun h=>f ⟨e,h⟩
section
variable {α:Type}
theorem rD (n:Nat)(f:Nat->α):yu n f=f n:=by cases n<;>rfl
theorem jag (n:Int)(f:Int->α):UN n f=f n:=by cases n<;>simp[UN,rD]
theorem NR (n:Bool)(f:Bool->α):Je n f=f n:=by cases n<;>rfl
theorem q8f (n:IntKind)(f:IntKind->α):q3x n f=f n:=by cases n<;>rfl
theorem US:∀ (s:aj) (f:aj->α),Jf s f=f s
 | [],_=>rfl
 |c::s,f=>by simp only[Jf];rw[US s]
theorem jea (g:Fn)(f:Fn->α):UO g f=f g:=by cases g<;>simp[UO,rD]
mutual
theorem Ji:∀ (v:AVal) (f:AVal->α),ic v f=f v
 | .bool b,f=>by simp only[ic,NR]
 | .int k n,f=>by simp only[ic,q8f,jag]
 | .str s,f=>by simp only[ic,US]
 | .list b sz xs,f=>by simp only[ic,NR,rD];rw[Bq xs]
 | .ms b o l,f=>by simp only[ic,rD]
 | .ptr b o,f=>by simp only[ic,rD]
 | .aq v,f=>by simp only[ic];rw[Ji v]
 | .cW n,f=>by simp only[ic,rD]
 | .b6,f=>by simp only[ic]
 | .map b,f=>by simp only[ic,rD]
 | .b8,f=>by simp only[ic]
 | .fn g a c,f=>by simp only[ic,jea];rw[Bq a,Bq c]
 | .cu,f=>by simp only[ic]
 | .agg cs,f=>by simp only[ic];rw[Bq cs]
 | .aJ cs,f=>by simp only[ic];rw[Bq cs]
 | .undef,f=>by simp only[ic]
 | .any,f=>by simp only[ic]
 | .ay b bN len,f=>by simp only[ic,rD]
 | .dT b bN off,f=>by simp only[ic,rD]
theorem Bq:∀ (l:List AVal) (f:List AVal->α),wL l f=f l
 | [],f=>by simp only[wL]
 |x::xs,f=>by simp only[wL];rw[Ji x,Bq xs]
end
theorem UT:∀ (e:Env) (f:Env->α),Jg e f=f e
 | [],_=>rfl
 |(t,v,o)::e,f=>by simp only[Jg,rD,Ji,NR];rw[UT e]
theorem qry:∀ (e:List (AVal×Bool)) (f:List (AVal×Bool)->α),NN e f=f e
 | [],_=>rfl
 |(v,o)::e,f=>by simp only[NN,Ji,NR];rw[qry e]
theorem qnk:∀ (e:List (AVal×AVal)) (f:List (AVal×AVal)->α),NP e f=f e
 | [],_=>rfl
 |(v,o)::e,f=>by simp only[NP,Ji];rw[qnk e]
theorem q8z (x:Option jb)(f:Option jb->α):UQ x f=f x:=by
 cases x with
 |none=>rfl|some x=>cases x<;>simp[UQ,rD]
theorem jbf (b:aK)(f:aK->α):UR b f=f b:=by
 cases b<;>simp[UR,qry,qnk,rD,US,UT,q8z,Bq]
theorem qte:∀ (h:qf) (f:qf->α),NQ h f=f h
 | [],_=>rfl
 |b::h,f=>by simp only[NQ,jbf];rw[qte h]
theorem UU (st:bn)(f:bn->α):Jh st f=f st:=by simp only[Jh,UT,qte]
end
def iX (p:j8):Nat->XC
 |0,_,_=>E6
 |n+1,c,st=>match c with
  | .skip=>En (.normal,st)
  | .region na ops keep=>match l9 p (iX p n) na ops keep st with
   |some (x,bP)=>Jh bP fun s=>En (x,s)
   |none=>E6
  | .seq a b=>match iX p n a st with
   |some (.normal,bP)=>iX p n b bP|r=>r
  | .cond c a b=>match qh st.env c with
   |some (.bool t)=>bif t then iX p n a st else iX p n b st|_=>E6
  | .block id body=>match iX p n body st with
   |some (.exit fI,bP)=>bif Ig fI id then En (.normal,bP)else En (.exit fI,bP)|r=>r
  | .loop body=>match iX p n body st with
   |some (.normal,bP)=>Jh (gc st.heap.length bP) fun s=>iX p n (.loop body) s
   |r=>r
  | .rangeFunc f params assign body=>match mb p (iX p n) f params assign body st with
   |some (x,bP)=>Jh bP fun s=>En (x,s)
   |none=>E6
  | .exit id=>En (.exit id,st)| .ret=>En (.ret,st)
  | .grow sz=>match jn 0 st.env,jn 1 st.env with
   |some (.list Hb _ _,_),En (.int .i64 (.ofNat m),_)=>bif Jx 0 m&&Ix m 1073741824 then En (.normal,{ st with env:=[(0,.list H2 sz [],Hb)] })else E6|_,_=>E6
  | .stuck=>E6
theorem NS (p:j8):∀n,iX p n=aC p n
 |0=>by funext c st;rfl
 |n+1=>by
  have ih:=NS p n;funext c st
  cases c with
  |region na ops keep=>
   simp only[iX,aC,ih]
   cases l9 p (aC p n) na ops keep st with
   |none=>rfl|some r=>simp only[UU]
  |rangeFunc f ps a b=>
   simp only[iX,aC,ih]
   cases mb p (aC p n) f ps a b st with
   |none=>rfl|some r=>simp only[UU]
  |loop body=>
   simp only[iX,aC,ih,UU];rfl
  |_=>simp only[iX,aC,ih]<;>rfl
inductive bL where
 |leaf (k:Nat) (f:iH)
 |node (m:Nat) (a b:bL)
def bL.find:bL->Nat->Option iH
 | .leaf k f,n=>bif Ig k n then En f else E6| .node m a b,n=>bif Jx n m then a.find n else b.find n
def bL.All (aaj:Nat->iH->Prop):bL->Prop
 | .leaf k f=>aaj k f| .node _ a b=>a.All aaj/\b.All aaj
theorem bL.gp {aaj}:∀ {t:bL} {k:Nat} {f:iH},t.All aaj->t.find k=En f->aaj k f
 | .leaf j g,k,f,h,hf=>by
  simp only[bL.find]at hf
  cases hb:Ig j k with
  |false=>simp[hb]at hf
  |true=>
   have:=Hc hb;subst this;simp only[hb,cond_true,En.injEq]at hf;subst hf;exact h
 | .node m a b,k,f,h,hf=>by
  simp only[bL.find]at hf
  cases hb:Jx k m with
  |true=>simp only[hb,cond_true]at hf;exact bL.gp h.1 hf|false=>simp only[hb,cond_false]at hf;exact bL.gp h.2 hf
def bL.prog (t:bL)(cB:Aw)(maps:S3:=fun _=>E6):j8:={ br:=t.find,cB:=cB,maps:=maps }
theorem jik {p n k args r}(h:ae p (iX p n) k args=r):ae p (aC p n) k args=r:=by
 rw[<-NS];exact h
def Kw (w:World):Nat->Nat->Option Value:=fun r o=>(w.cell? ⟨r,o,E6⟩).filter (·.oneCell')
theorem j6s {w r o v}(h:w.cell? ⟨r,o,E6⟩=En v)(Y:v.oneCell'=Hb):Kw w r o=En v:=by simp[Kw,h,Y]
theorem jcg {w r o v}(h:Kw w r o=En v):w.cell? ⟨r,o,E6⟩=En v/\v.oneCell'=Hb:=by
 unfold Kw at h;rw[Option.filter_eq_some_iff]at h;exact h
def qhn (P:Program)(t:TypeId):Bool:=match P.underlying t with
 |some (.struct _)=>Hb|some (.array _ _)=>Hb|_=>H2
def NT (P:Program):Nat->List Field->Bool
 |_,[]=>Hb|o,f::fs=>f.offset == o&&NT P (o+P.cellsOf f.type) fs
def NU (P:Program)(fs:List Field):Nat:=(fs.map fun f=>P.cellsOf f.type).sum
def s9 (P:Program):Nat->TypeId->Bool
 |0,_=>H2
 |n+1,t=>match P.underlying t with
  |some .bool=>P.cellsOf t == 1|some (.int _)=>P.cellsOf t == 1|some .string=>P.cellsOf t == 1|some (.slice e)=>P.cellsOf t == 1&&s9 P n e&&decide (0<P.cellsOf e)
  |some (.struct fs)=>NT P 0 fs.toList&&NU P fs.toList == P.cellsOf t&&fs.toList.all fun f=>s9 P n f.type
  |some (.array k e)=>P.cellsOf t == k*P.cellsOf e&&s9 P n e|_=>H2
def Jj (ty:TypeId->List AVal->Prop):List Field->List AVal->Prop
 | [],cs=>cs=[]|f::fs,cs=>∃ys zs,cs=ys++zs/\ty f.type ys/\Jj ty fs zs
def Jk (ty:List AVal->Prop):Nat->List AVal->Prop
 |0,cs=>cs=[]|k+1,cs=>∃ys zs,cs=ys++zs/\ty ys/\Jk ty k zs
def yw (P:Program):Nat->TypeId->List AVal->Prop
 |0,_,_=>False
 |n+1,t,cs=>match P.underlying t with
  |some .bool=>∃b,cs=[.bool b]|some (.int k)=>∃m,cs=[.int k m]/\(Lit.int k m).wf=Hb|some .string=>∃s,cs=[.str s]/\s.length<=maxLen|some (.slice e)=>cs=[.list Hb 0 []]\/∃xs,cs=[.list H2 (P.cellsOf e) xs]/\xs.length<=maxLen/\∀y∈xs,yw P n e y.flat/\y.isAgg=qhn P e|some (.struct fs)=>Jj (yw P n) fs.toList cs|some (.array k e)=>Jk (yw P n e) k cs|_=>False
section
variable {P:Program}{H:Type}{enc:TypeId×Value->H}{w:World}
theorem q3z:∀ (fs:List Field) (o:Nat) (vs:List Value),NT P o fs=Hb->vs.length=o+NU P fs->vs.drop o=(fs.map fun f=>(vs.drop f.offset).take (P.cellsOf f.type)).flatten
 | [],o,vs,_,hl=>by simp[NU]at hl;simp[hl]
 |f::fs,o,vs,ht,hl=>by
  simp only[NT,Ha,beq_iff_eq]at ht;obtain⟨rfl,ht⟩:=ht;have ih:=q3z fs _ vs ht (by simp[NU]at hl ⊢;omega);rw[Lf,I2,<-ih,<-Ld,List.take_append_drop]
theorem FV {α β:Type}{f}:∀ {l:List α} {ys:List β},l.mapM f=En ys->ys.length=l.length/\∀(i:Nat) (x:α),l[i]?=En x->∃y,ys[i]?=En y/\f x=En y
 | [],ys,h=>by simp at h;subst h;simp
 |a::l,ys,h=>by
  rw[List.mapM_cons]at h
  cases hf:f a with
  |none=>simp[hf]at h
  |some y=>
   cases Q:l.mapM f with
   |none=>simp[hf,Q]at h
   |some zs=>
    simp[hf,Q]at h;subst h;obtain⟨Y,I⟩:=FV Q;refine⟨by simp[Y],fun i x M=>?_⟩
    cases i with
    |zero=>simp at M;subst M;exact⟨y,rfl,hf⟩|succ i=>simp at M;obtain⟨z,h3,h4⟩:=I i x M;exact⟨z,by simpa using h3,h4⟩
theorem q90 {base n a vs}(h:w.cells? base a n=En vs):vs.length=n/\∀(i:Nat) (v:Value),vs[i]?=En v->w.cell? (a.add i)=En v:=by
 unfold World.cells? at h;split at h
 .obtain⟨Y,I⟩:=FV h;rw[I3]at Y;refine⟨Y,fun i v hv=>?_⟩
  have hi:i<n:=by rw[<-Y];exact(Ip.1 hv).1
  obtain⟨y,h3,h4⟩:=I i i (by rw[H3 hi]);rw[hv]at h3;cases h3;exact h4
 .cases h
theorem qyb {ty:TypeId->List AVal->Prop}:∀(fs:List Field) (od:List (List Value)),od.length=fs.length->(∀(i:Nat) (f:Field) (vs:List Value),fs[i]?=En f->od[i]?=En vs->∃cs,bj (.bZ (Kw w)) cs vs/\ty f.type cs)->∃cs,bj (.bZ (Kw w)) cs od.flatten/\Jj ty fs cs
 | [],od,hl,_=>by
  have:od=[]:=Ij.1 (by simpa using hl);subst this;exact⟨[],.nil,rfl⟩
 |f::fs,[],hl,_=>by simp at hl
 |f::fs,vs::od,hl,h=>by
  obtain⟨ys,Y,I⟩:=h 0 f vs rfl rfl;obtain⟨zs,h3,h4⟩:=qyb fs od (by simpa using hl) (fun i f' sL hf hv=>h (i+1) f' sL (by simpa using hf) (by simpa using hv));exact⟨ys++zs,bj.append Y h3,ys,zs,rfl,I,h4⟩
theorem qwf {ty}:∀(k:Nat) (od:List (List Value)),od.length=k->(∀(i:Nat) vs,od[i]?=En vs->∃cs,bj (.bZ (Kw w)) cs vs/\ty cs)->∃cs,bj (.bZ (Kw w)) cs od.flatten/\Jk ty k cs
 |0,od,hl,_=>by
  have:od=[]:=Ij.1 hl;subst this;exact⟨[],.nil,rfl⟩
 |k+1,[],hl,_=>by simp at hl
 |k+1,vs::od,hl,h=>by
  obtain⟨ys,Y,I⟩:=h 0 vs rfl;obtain⟨zs,h3,h4⟩:=qwf k od (by simpa using hl) (fun i sL hv=>h (i+1) sL (by simpa using hv));exact⟨ys++zs,bj.append Y h3,ys,zs,rfl,I,h4⟩
theorem jbm (n:Nat):∀(k:Nat) (vs:List Value),vs.length=k*n->vs=((H9 k).map fun i=>(vs.drop (i*n)).take n).flatten
 |0,vs,hl=>by
  have:vs=[]:=Ij.1 (by simpa using hl);simp[this]
 |k+1,vs,hl=>by
  have ih:=jbm n k (vs.drop n) (by simp[hl,I1]);rw[List.range_succ_eq_map,Lf,I2,List.map_map]
  have e:(H9 k).map ((fun i=>(vs.drop (i*n)).take n) ∘ Nat.succ)=(H9 k).map fun i=>((vs.drop n).drop (i*n)).take n:=by
   apply List.map_congr_left;intro i _;simp only[Function.comp,Ld]
   congr 2
   rw[I1];omega
  rw[e,<-ih];simp
theorem UW:∀ {n:Nat} {t:TypeId} {cs:List AVal},yw P n t cs->∀x∈cs,qk x=Hb
 |0,_,_,h=>h.elim
 |n+1,t,cs,h=>by
  have fsc:∀(fs:List Field) (cs:List AVal),Jj (yw P n) fs cs->∀x∈cs,qk x=Hb:=by
   intro fs
   induction fs with
   |nil=>intro cs h;simp only[Jj]at h;subst h;simp
   |cons f fs ih=>
    rintro cs ⟨ys,zs,rfl,Y,I⟩ x M;rcases Jz.1 M with M|M
    .exact UW Y x M
    .exact ih _ I x M
  have rsc:∀(e:TypeId) (k:Nat) (cs:List AVal),Jk (yw P n e) k cs->∀x∈cs,qk x=Hb:=by
   intro e k
   induction k with
   |zero=>intro cs h;simp only[Jk]at h;subst h;simp
   |succ k ih=>
    rintro cs ⟨ys,zs,rfl,Y,I⟩ x M;rcases Jz.1 M with M|M
    .exact UW Y x M
    .exact ih _ I x M
  simp only[yw]at h;split at h
  .obtain⟨b,rfl⟩:=h;simp[qk]
  .obtain⟨m,rfl,_⟩:=h;simp[qk]
  .obtain⟨s,rfl,_⟩:=h;simp[qk]
  .rcases h with rfl|⟨xs,rfl,_⟩<;>simp[qk]
  .exact fsc _ _ h
  .exact rsc _ _ _ h
  .exact h.elim
theorem qy1 {n}{t:TypeId}{cs}(h:yw P n t cs)(ha:qhn P t=H2):∃x,cs=[x]/\x.isAgg=H2:=by
 cases n with
 |zero=>exact h.elim
 |succ n=>
  unfold qhn at ha;simp only[yw]at h;split at h
  .obtain⟨b,rfl⟩:=h;exact⟨_,rfl,rfl⟩
  .obtain⟨m,rfl,_⟩:=h;exact⟨_,rfl,rfl⟩
  .obtain⟨s,rfl,_⟩:=h;exact⟨_,rfl,rfl⟩
  .rcases h with rfl|⟨xs,rfl,_⟩<;>exact⟨_,rfl,rfl⟩
  .rename_i hu;rw[hu]at ha;cases ha
  .rename_i hu;rw[hu]at ha;cases ha
  .exact h.elim
theorem read {held}:∀(n fuel:Nat) (t:TypeId) (vs:List Value) (d:DataW H) (ps:List MemPlace),s9 P n t=Hb->DataW.trod enc P w 0 (fun _=>Hb) held fuel t vs=En (d,ps) ->
  ∃cs,bj (.bZ (Kw w)) cs vs/\yw P n t cs/\cs.length=P.cellsOf t
 |0,_,_,_,_,_,hp,_=>by simp[s9]at hp
 |n+1,0,_,_,_,_,_,h=>by simp[DataW.trod]at h
 |n+1,fuel+1,t,vs,d,ps,hp,h=>by
  simp only[s9]at hp;simp only[yw];simp only[DataW.trod]at h
  cases hu:P.underlying t with
  |none=>simp[hu]at hp
  |some td=>
   rw[hu]at h hp
   cases td with
   |bool=>
    simp only[beq_iff_eq]at hp
    split at h<;>first|cases ‹En _=En _› | skip
    all_goals first|(rename_i heq;cases heq;done)|skip
    .exact⟨_,.cons _ _ _ _ (.bool _) .nil,⟨_,rfl⟩,by simp[hp]⟩
    .cases h
   |int k=>
    simp only[beq_iff_eq]at hp
    split at h<;>first|cases ‹En _=En _› | skip
    all_goals first|(rename_i heq;cases heq;done)|skip
    .split at h
     .rename_i hk;obtain⟨rfl,dw⟩:=hk;exact⟨_,.cons _ _ _ _ (.int _ _) .nil,⟨_,rfl,dw⟩,by simp[hp]⟩
     .cases h
    .cases h
   |string=>
    simp only[beq_iff_eq]at hp
    split at h<;>first|cases ‹En _=En _› | skip
    all_goals first|(rename_i heq;cases heq;done)|skip
    .rename_i s;split at h
     .rename_i hk;refine⟨[.str s.data.toList],.cons _ _ _ _ (aM.str s.data.toList) .nil,⟨_,rfl,?_⟩,by simp[hp]⟩;simpa using hk
     .cases h
    .cases h
   |slice e=>
    simp only[Ha,beq_iff_eq,decide_eq_true_eq]at hp;obtain⟨⟨kX,dV⟩,hp3⟩:=hp
    split at h<;>first|cases ‹En _=En _› | skip
    all_goals first|(rename_i heq;cases heq;done)|skip
    .exact⟨_,.cons _ _ _ _ (.jV 0) .nil,.inl rfl,by simp[kX]⟩
    .rename_i a len cap;split at h
     .rename_i hk;obtain⟨_,dw,hk3⟩:=hk
      cases he:(H9 len).mapM (fun i=>(w.cells? 0 (a.add (i*P.cellsOf e)) (P.cellsOf e)).bind (DataW.trod enc P w 0 (fun _=>Hb) held fuel e))with
      |none=>simp[he]at h
      |some elems=>
       simp only[he,Jy,if_true]at h
       cases Q:(H9 (cap-len)).mapM (fun j=>(w.cells? 0 (a.add ((len+j)*P.cellsOf e)) (P.cellsOf e)).bind (DataW.trod enc P w 0 (fun _=>Hb) held fuel e))with
       |none=>simp[Q]at h
       |some rest=>
        obtain⟨he1,Nz⟩:=FV he;obtain⟨iO,sU⟩:=FV Q;rw[I3]at he1 iO
        have Jl:0<cap->a.spot=E6:=fun hc=>by
         have wM:∃z,(w.cells? 0 (a.add (0*P.cellsOf e)) (P.cellsOf e)).bind (DataW.trod enc P w 0 (fun _=>Hb) held fuel e)=En z:=by
          by_cases hl:0<len
          .obtain⟨y,_,hy⟩:=Nz 0 0 (by rw[H3 hl]);exact⟨y,hy⟩
          .obtain⟨y,_,hy⟩:=sU 0 0 (by rw[H3 (by omega)])
           have HQ:len=0:=by omega
           subst HQ;exact⟨y,by simpa using hy⟩
         obtain⟨z0,wM⟩:=wM
         cases NV:w.cells? 0 (a.add (0*P.cellsOf e)) (P.cellsOf e)with
         |none=>rw[NV]at wM;cases wM
         |some us0=>
          obtain⟨d1,d2⟩:=q90 NV;have dC:=d2 0 _ (List.getElem?_eq_getElem (show 0<us0.length by omega));have:=World.cell?_spot dC;simpa[Addr.add]using this
        by_cases hcap:0<cap
        .have NI:=Jl hcap;obtain⟨r,o,sp⟩:=a;simp only at NI;subst NI
         have elem:∀(i:Nat),i<len->∃y:AVal,cD (.bZ (Kw w)) r y.flat (o+i*P.cellsOf e)/\y.flat.length=P.cellsOf e/\yw P n e y.flat/\y.isAgg=qhn P e:=by
          intro i hi;obtain⟨z,_,hz⟩:=Nz i i (by rw[H3 hi])
          cases hc:w.cells? 0 ((⟨r,o,E6⟩:Addr).add (i*P.cellsOf e)) (P.cellsOf e)with
          |none=>simp[hc]at hz
          |some us=>
           simp only[hc,Jy]at hz;obtain⟨c1,c2⟩:=q90 hc;obtain⟨cs,k1,k2,k3⟩:=read n fuel e us z.1 z.2 dV hz;have de:=AW k1 (UW k2)
           have hcs:cD (.bZ (Kw w)) r cs (o+i*P.cellsOf e):=cD.iK k1 fun j v hj=>by
            have Y:=c2 j v hj;rw[add_lit,add_lit]at Y;exact j6s Y (de v (Il hj))
           cases dh:qhn P e with
           |true=>exact⟨.agg cs,hcs,k3,k2,rfl⟩
           |false=>
            obtain⟨x,rfl,M⟩:=qy1 k2 dh;have hf:x.flat=[x]:=qcg M;exact⟨x,by rw[hf];exact hcs,by rw[hf];exact k3,by rw[hf];exact k2,M⟩
         have rows:∀(m:Nat) (q:Nat),q+m=len->∃ys:List AVal,ys.length=m/\bB (.bZ (Kw w)) r (P.cellsOf e) ys (o+q*P.cellsOf e)/\∀y∈ys,yw P n e y.flat/\y.isAgg=qhn P e:=by
          intro m
          induction m with
          |zero=>intro q _;exact⟨[],rfl,.fO _ _ _,by simp⟩
          |succ m ih=>
           intro q hq;obtain⟨ys,y1,y2,y3⟩:=ih (q+1) (by omega);obtain⟨y,z1,z2,z3⟩:=elem q (by omega);refine⟨y::ys,by simp[y1],.dp _ _ _ _ _ z2 z1 ?_,?_⟩
           .rw[show o+q*P.cellsOf e+P.cellsOf e=o+(q+1)*P.cellsOf e from by rw[I1];omega];exact y2
           .intro x M;rcases Le.1 M with rfl|M
            .exact z3
            .exact y3 x M
         obtain⟨ys,y1,y2,y3⟩:=rows len 0 (by omega);rw[Nat.zero_mul,Nat.add_zero]at y2;subst y1;exact⟨_,.cons _ _ _ _ (.list (P.cellsOf e) ys r o cap dw y2) .nil,.inr ⟨ys,rfl,by omega,y3⟩,by simp[kX]⟩
        .have NV:cap=0:=by omega
         have HQ:len=0:=by omega
         subst NV;subst HQ;by_cases kQ:a.spot=E6
         .obtain⟨r,o,sp⟩:=a;simp only at kQ;subst kQ;exact⟨_,.cons _ _ _ _ (.list (P.cellsOf e) [] r o 0 (by simp) (.fO _ _ _)) .nil,.inr ⟨[],rfl,by simp,by simp⟩,by simp[kX]⟩
         .exact⟨_,.cons _ _ _ _ (.jW (P.cellsOf e) a kQ) .nil,.inr ⟨[],rfl,by simp,by simp⟩,by simp[kX]⟩
     .cases h
    .cases h
   |struct fs=>
    simp only[Ha,beq_iff_eq,List.all_eq_true]at hp;obtain⟨⟨kX,dV⟩,hp3⟩:=hp;change (if vs.length=P.cellsOf t then(fs.toList.mapM fun f=>DataW.trod enc P w 0 (fun _=>Hb) held fuel f.type ((vs.drop f.offset).take (P.cellsOf f.type))).map fun xs=>(DataW.agg (xs.map (·.1)),xs.flatMap (·.2))else E6)=En (d,ps)at h
    .split at h
     .rename_i hl
      cases hm:fs.toList.mapM (fun f=>DataW.trod enc P w 0 (fun _=>Hb) held fuel f.type ((vs.drop f.offset).take (P.cellsOf f.type)))with
      |none=>simp[hm]at h
      |some zs=>
       obtain⟨m1,m2⟩:=FV hm;have pS:=q3z fs.toList 0 vs kX (by omega)
       obtain⟨cs,k1,k2⟩:=qyb (w:=w) (ty:=yw P n) fs.toList (fs.toList.map fun f=>(vs.drop f.offset).take (P.cellsOf f.type)) (by simp) (fun i f us hf hv=>by
        obtain⟨z,_,hz⟩:=m2 i f hf
        have hO:us=(vs.drop f.offset).take (P.cellsOf f.type):=by
         rw[Jv,hf]at hv;simpa using hv.symm
        subst hO;obtain⟨cs,q1,q2,_⟩:=read n fuel f.type _ z.1 z.2 (hp3 f (Il hf)) hz
        exact⟨cs,q1,q2⟩)
       rw[<-pS]at k1;exact⟨cs,by simpa using k1,k2,by have:=k1.length;simp at this;omega⟩
     .cases h
   |array k e=>
    simp only[Ha,beq_iff_eq]at hp;obtain⟨kX,dV⟩:=hp;change (if vs.length=P.cellsOf t then((H9 k).mapM fun i=>DataW.trod enc P w 0 (fun _=>Hb) held fuel e ((vs.drop (i*P.cellsOf e)).take (P.cellsOf e))).map fun xs=>(DataW.agg (xs.map (·.1)),xs.flatMap (·.2))else E6)=En (d,ps)at h
    .split at h
     .rename_i hl
      cases hm:(H9 k).mapM (fun i=>DataW.trod enc P w 0 (fun _=>Hb) held fuel e ((vs.drop (i*P.cellsOf e)).take (P.cellsOf e)))with
      |none=>simp[hm]at h
      |some zs=>
       obtain⟨m1,m2⟩:=FV hm;have pS:=jbm (P.cellsOf e) k vs (by omega)
       obtain⟨cs,k1,k2⟩:=qwf (w:=w) (ty:=yw P n e) k ((H9 k).map fun i=>(vs.drop (i*P.cellsOf e)).take (P.cellsOf e)) (by simp) (fun i us hv=>by
        have hi:i<k:=by
         have:=(Ip.1 hv).1;simpa using this
        obtain⟨z,_,hz⟩:=m2 i i (by rw[H3 hi])
        have hO:us=(vs.drop (i*P.cellsOf e)).take (P.cellsOf e):=by
         rw[Jv,H3 hi]at hv;simpa using hv.symm
        subst hO;obtain⟨cs,q1,q2,_⟩:=read n fuel e _ z.1 z.2 dV hz
        exact⟨cs,q1,q2⟩)
       rw[<-pS]at k1;exact⟨cs,k1,k2,by have:=k1.length;omega⟩
     .cases h
   |_=>simp at hp
end
open Go.ChangeShapes Go.WideShapes Go.ChangeAt Go.RowKit
section
variable {P:Program}{H:Type}{enc:TypeId×Value->H}{w:World}
def jg7 (P:Program)(n:Nat)(t:TypeId)(x:AVal):Prop:=yw P n t x.flat/\x.isAgg=qhn P t
def qrl (P:Program)(n:Nat):List TypeId->List AVal->Prop
 | [],xs=>xs=[]|t::ts,xs=>∃y ys,xs=y::ys/\jg7 P n t y/\qrl P n ts ys
theorem jud {n}{t:TypeId}{v d ps base}(hp:s9 P n t=Hb)(hv:Value.okWide P w .any base t v)(h:DataW.Trod enc P w 0 (fun _=>Hb) Hb t v d ps):∃x,bS (.bZ (Kw w)) x v/\jg7 P n t x:=by
 obtain⟨fuel,hf⟩:=h;obtain⟨cs,k1,k2,k3⟩:=read n fuel t _ d ps hp hf
 cases dh:qhn P t with
 |true=>
  have IE:∃cells,v=.agg cells:=by
   unfold qhn at dh;unfold Value.okWide at hv;split at dh
   .rename_i fs hu;rw[hu]at hv;obtain⟨c,hc,_⟩:=hv;exact⟨c,hc⟩
   .rename_i a b hu;rw[hu]at hv;obtain⟨c,hc,_⟩:=hv;exact⟨c,hc⟩
   .cases dh
  obtain⟨cells,rfl⟩:=IE;exact⟨.agg cs,.agg cs cells.toList k1,k2,dh.symm⟩
 |false=>
  obtain⟨x,rfl,M⟩:=qy1 k2 dh
  have IE:v.cells.toList=[v]:=by
   cases v with
   |agg c=>
    exfalso;unfold Value.okWide at hv;unfold qhn at dh
    cases n with
    |zero=>simp[s9]at hp
    |succ n=>
     simp only[s9]at hp
     cases hu:P.underlying t with
     |none=>rw[hu]at hp;cases hp
     |some td=>rw[hu]at hp hv dh;cases td<;>first|(simp at hp;done)|(simp at dh;done)|(simp[Cell.okWide,hu,Cell.ok]at hv;done)
   |_=>rfl
  rw[IE]at k1
  cases k1 with
  |cons _ _ _ _ Y _=>exact⟨x,Y,by rw[qcg M];exact k2,by rw[M,dh]⟩
theorem jct {n}:∀ {ts:List TypeId} {vs:List Value} {ds:List (DataW H)} {ps:List MemPlace},ts.all (s9 P n)=Hb->(∀(j:Nat) t v,ts[j]?=En t->vs[j]?=En v->∃base,Value.okWide P w .any base t v)->DataW.TrodAll enc P w 0 (fun _=>Hb) Hb ts vs ds ps ->
  ds.length=ts.length/\∃xs,bj (.bZ (Kw w)) xs vs/\qrl P n ts xs
 | [],[],[],ps,_,_,_=>⟨rfl,[],.nil,rfl⟩
 | [],[],_::_,ps,_,_,h=>by simp[DataW.TrodAll]at h
 | [],_::_,_,ps,_,_,h=>by simp[DataW.TrodAll]at h
 |_::_,[],_,ps,_,_,h=>by simp[DataW.TrodAll]at h
 |_::_,_::_,[],ps,_,_,h=>by simp[DataW.TrodAll]at h
 |t::ts,v::vs,d::ds,ps,hp,hv,h=>by
  obtain⟨p,q,Y,I,_⟩:=h;simp only[Lg,Ha]at hp;obtain⟨base,hb⟩:=hv 0 t v rfl rfl;obtain⟨x,k1,k2⟩:=jud hp.1 hb Y;obtain⟨hl,xs,k3,k4⟩:=jct hp.2 (fun j t' v' ht wE=>hv (j+1) t' v' (by simpa using ht) (by simpa using wE)) I;exact⟨by simp[hl],x::xs,.cons _ _ _ _ k1 k3,x,xs,rfl,k2,k4⟩
theorem Ext.frame {w'}(h:Ext w w')(may:MemPlace->Prop):w.keptBut w' may:=by
 refine⟨h.os,h.output,fun i hi=>?_⟩;rw[h.same i hi];split<;>simp_all
theorem Ext.sameAt {w'}(h:Ext w w'){p}(hp:p.block<w.heap.size):w.sameAt w' p:=by
 cases p with
 |cell b o=>exact World.cell?_of_block (w:=w) (h.same b hp)|map b=>exact h.same b hp
theorem q85 {w'}(M:Ext w w')(hl:laidOutB P=Hb):∀ {ts:List TypeId} {vs:List Value} {ds:List (DataW H)} {ps:List MemPlace},ts.all (fun t=>P.readableRec t&&decide (t<P.types.size))=Hb->DataW.TrodAll enc P w 0 (fun _=>Hb) Hb ts vs ds ps ->
  DataW.TrodAll enc P w' 0 (fun b=>decide (b<w.heap.size)) Hb ts vs ds ps
 | [],[],[],ps,_,h=>h
 | [],[],_::_,ps,_,h=>by simp[DataW.TrodAll]at h
 | [],_::_,_,ps,_,h=>by simp[DataW.TrodAll]at h
 |_::_,[],_,ps,_,h=>by simp[DataW.TrodAll]at h
 |_::_,_::_,[],ps,_,h=>by simp[DataW.TrodAll]at h
 |t::ts,v::vs,d::ds,ps,Q,h=>by
  obtain⟨p,q,Y,I,h3⟩:=h;simp only[Lg,Ha,decide_eq_true_eq]at Q
  have bg:∀x∈p,x.block<w.heap.size:=by obtain⟨m,hm⟩:=Y;exact DataW.trod_lt m _ _ _ hm
  exact⟨p,q,WideElems.Trod_stays hl Q.1.1 Q.1.2 Y (fun x hm=>M.sameAt (bg x hm)) (fun x hm=>by simpa using bg x hm),q85 M hl Q.2 I,h3⟩
end
def nA (f g:XC):Prop:=∀c st r,f c st=En r->g c st=En r
section
variable {p:j8}{f g:XC}
theorem qr5 (h:nA f g){af args hp r}(Q:rh f af args hp=En r):rh g af args hp=En r:=by
 unfold rh at *
 cases hb:Ix args.length af.ntmps with
 |false=>simp[hb]at Q
 |true=>
  simp only[hb,cond_true]at Q ⊢;split at Q
  .rename_i st ct;rw[h _ _ _ ct];exact Q
  .rename_i st ct;rw[h _ _ _ ct];exact Q
  .cases Q
theorem NW (h:nA f g){k args hp r}(Q:ai p f k args hp=En r):ai p g k args hp=En r:=by
 unfold ai at *;split at Q
 .exact qr5 h Q
 .exact Q
theorem NY (h:nA f g){k args r}(Q:ae p f k args=En r):ae p g k args=En r:=by
 unfold ae at *;split at Q
 .exact Q
 .split at Q
  .rename_i v o hh hc;rw[NW h hc];exact Q
  .cases Q
theorem qsw (h:nA f g){b args hp r}(Q:lz f b args hp=En r):lz g b args hp=En r:=by
 unfold lz at *;split at Q
 .split at Q
  .split at Q
   .rename_i st ct;rw[h _ _ _ ct];simp only[];split at Q
    .rename_i l1 dQ
     cases kX:l1.pending.isNone with
     |false=>simp[kX]at Q
     |true=>
      simp only[kX,cond_true]at Q ⊢;split at Q
      .rename_i x bP iz;rw[h _ _ _ iz];exact Q
      .cases Q
    .cases Q
   .cases Q
  .cases Q
 .cases Q
theorem q5b (h:nA f g){h0 e hp md x l r}(Q:yo p f h0 e hp md x l=En r):yo p g h0 e hp md x l=En r:=by
 unfold yo at *;split at Q
 .cases md with
  |bZ=>
   simp only[]at Q ⊢
   rename_i k first captured vs _ _
   cases hb:qo 0 (first++vs++captured)with
   |false=>rw[hb]at Q;cases Q
   |true=>
    rw[hb]at Q;simp only[cond_true]at Q ⊢;split at Q
    .rename_i v o hc;rw[NY h hc];exact Q
    .cases Q
  |red=>
   simp only[]at Q ⊢;split at Q
   .rename_i us hf
    cases hb:qo 0 us with
    |false=>rw[hb]at Q;cases Q
    |true=>
     rw[hb]at Q;simp only[cond_true]at Q ⊢;split at Q
     .rename_i v o hc;rw[NY h hc];exact Q
     .cases Q
   .cases Q
  |ft _=>
   simp only[]at Q ⊢
   rename_i k first captured vs _ _ _
   cases he:(first++vs++captured).isEmpty with
   |true=>rw[he]at Q;exact Q
   |false=>
    rw[he]at Q;simp only[cond_false]at Q ⊢
    cases hb:qo 0 (first++vs++captured)with
    |false=>rw[hb]at Q;cases Q
    |true=>
     rw[hb]at Q;simp only[cond_true]at Q ⊢;split at Q
     .rename_i v o hc;rw[NY h hc];exact Q
     .cases Q
  |shr=>
   simp only[]at Q ⊢;split at Q
   .rename_i v o hh hc;rw[NW h hc];exact Q
   .cases Q
 .cases md with
  |shr=>
   simp only[]at Q ⊢;split at Q
   .rename_i v hh hc;rw[qsw h hc];exact Q
   .cases Q
  |_=>simp at Q
 .cases Q
theorem jas (h:nA f g){h0 al e hp op r}(Q:qe p f h0 al e hp op=En r):qe p g h0 al e hp op=En r:=by
 cases op with
 |call md x l=>exact q5b h Q|append rk sz b x y=>cases rk<;>exact Q|b9 rk sz b z n c=>cases rk<;>exact Q|_=>exact Q
theorem qr1 (h:nA f g){h0 o st bP}(Q:yp p f h0 o st=En bP):yp p g h0 o st=En bP:=by
 unfold yp at *;split at Q
 .split at Q
  .rename_i r G;rw[jas h G];exact Q
  .cases Q
 .exact Q
 .cases Q
theorem UX (h:nA f g){h0}:∀ {l:List bT} {st bP:bn},fH p f h0 l st=En bP->fH p g h0 l st=En bP
 | [],_,_,Q=>Q
 |o::l,st,bP,Q=>by
  simp only[fH]at Q ⊢;split at Q
  .rename_i s1 Y;rw[qr1 h Y];exact UX h Q
  .cases Q
theorem qs9 (h:nA f g){na l k st r}(Q:l9 p f na l k st=En r):l9 p g na l k st=En r:=by
 unfold l9 at *;split at Q
 .rename_i s1 Y;rw[UX h Y];exact Q
 .cases Q
theorem qwd (h:nA f g){x ps a b st r}(Q:mb p f x ps a b st=En r):mb p g x ps a b st=En r:=by
 unfold mb at *
 cases hn:(zx a&&zx b)with
 |false=>simp[hn]at Q
 |true=>
  simp only[hn,cond_true]at Q ⊢;split at Q
  .split at Q
   .rename_i v o hh hc;rw[NW h hc];exact Q
   .cases Q
  .cases Q
end
theorem qy4 (p:j8):∀n,nA (aC p n) (aC p (n+1))
 |0=>fun c st r h=>by simp[aC]at h
 |n+1=>by
  have ih:=qy4 p n;intro c st r h
  cases c with
  |region na l k=>simp only[aC]at h ⊢;exact qs9 ih h|rangeFunc f ps a b=>simp only[aC]at h ⊢;exact qwd ih h
  |seq a b=>
   rw[aC]at h ⊢;split at h
   .rename_i fR Y;rw[ih _ _ _ Y];exact ih _ _ _ h
   .rename_i bG;rw[ih _ _ _ h];split
    .rename_i fR Y;cases Y;exact absurd h (bG _)
    .rfl
  |cond c a b=>
   rw[aC]at h ⊢;split at h
   .rename_i t ht;cases t
    .simp only[cond_false]at h ⊢;exact ih _ _ _ h
    .simp only[cond_true]at h ⊢;exact ih _ _ _ h
   .cases h
  |block id b=>
   rw[aC]at h ⊢;split at h
   .rename_i fI fR Y;rw[ih _ _ _ Y];exact h
   .rename_i bG;rw[ih _ _ _ h];split
    .rename_i fI fR Y;cases Y;exact absurd h (bG _ _)
    .rfl
  |loop b=>
   rw[aC]at h ⊢;split at h
   .rename_i fR Y;rw[ih _ _ _ Y];exact ih _ _ _ h
   .rename_i bG;rw[ih _ _ _ h];split
    .rename_i fR Y;cases Y;exact absurd h (bG _)
    .rfl
  |_=>exact h
theorem uZ (p:j8){n m}(h:n<=m):nA (aC p n) (aC p m):=by
 induction h with
 |refl=>exact fun _ _ _ h=>h
 |step _ ih=>exact fun c st r Q=>qy4 p _ c st r (ih c st r Q)
open Classical in
noncomputable def X (p:j8):XC:=fun c st=>if h:∃r n,aC p n c st=En r then En (Classical.choose h)else E6
theorem kc {p c st r}:X p c st=En r↔∃n,aC p n c st=En r:=by
 unfold X;constructor
 .intro h;split at h
  .rename_i hh;cases h;exact Classical.choose_spec hh
  .cases h
 .rintro ⟨n,hn⟩;have hh:∃r n,aC p n c st=En r:=⟨r,n,hn⟩;rw[dif_pos hh];obtain⟨m,hm⟩:=Classical.choose_spec hh;have Y:=uZ p (If n m) _ _ _ hn;have I:=uZ p (Ib n m) _ _ _ hm;rw[Y]at I;exact I.symm
theorem pg {p}(n:Nat):nA (aC p n) (X p):=fun _ _ _ h=>kc.2 ⟨n,h⟩
section
variable {p:j8}
theorem q72 {af args hp r}(Q:rh (X p) af args hp=En r):∃n,rh (aC p n) af args hp=En r:=by
 have Nu:=Q;unfold rh at Q
 cases hb:Ix args.length af.ntmps with
 |false=>simp[hb]at Q
 |true=>
  simp only[hb,cond_true]at Q
  have key:∀ {r'},X p af.body ⟨pH 0 args,hp⟩=En r'->∃n,rh (aC p n) af args hp=En r:=by
   intro r' h;obtain⟨n,hn⟩:=kc.1 h;refine⟨n,?_⟩;unfold rh;rw[hb,hn];rw[h]at Q;exact Q
  split at Q
  .rename_i st ct;exact key ct
  .rename_i st ct;exact key ct
  .cases Q
theorem NZ {k args hp r}(Q:ai p (X p) k args hp=En r):∃n,ai p (aC p n) k args hp=En r:=by
 unfold ai at *
 cases h:p.br k with
 |none=>rw[h]at Q;exact⟨0,Q⟩|some f=>rw[h]at Q;exact q72 Q
theorem Jm {k args r}(Q:ae p (X p) k args=En r):∃n,ae p (aC p n) k args=En r:=by
 unfold ae at *
 cases h:p.cB k with
 |some f=>rw[h]at Q;exact⟨0,Q⟩
 |none=>
  rw[h]at Q;simp only[]at Q ⊢;split at Q
  .rename_i v o hh hc;obtain⟨n,hn⟩:=NZ hc;exact⟨n,by rw[hn];exact Q⟩
  .cases Q
theorem jbe {b args hp r}(Q:lz (X p) b args hp=En r):∃n,lz (aC p n) b args hp=En r:=by
 unfold lz at Q;split at Q
 .rename_i l hl;split at Q
  .rename_i e wK hse;split at Q
   .rename_i st ct;split at Q
    .rename_i l1 dQ
     cases kX:l1.pending.isNone with
     |false=>simp[kX]at Q
     |true=>
      simp only[kX,cond_true]at Q;split at Q
      .rename_i x bP iz;obtain⟨n,hn⟩:=kc.1 ct;obtain⟨m,hm⟩:=kc.1 iz;refine⟨max n m,?_⟩;have Y:=uZ p (If n m) _ _ _ hn;have I:=uZ p (Ib n m) _ _ _ hm;simp only[lz,hl,wK,hse,Y,dQ,kX,cond_true,I];exact Q
      .cases Q
    .cases Q
   .cases Q
  .cases Q
 .cases Q
theorem q9n {h0 e hp md x l r}(Q:yo p (X p) h0 e hp md x l=En r):∃n,yo p (aC p n) h0 e hp md x l=En r:=by
 unfold yo at Q;split at Q
 .rename_i k first captured vs e1 e2
  cases md with
  |bZ=>
   simp only[]at Q
   cases hb:qo 0 (first++vs++captured)with
   |false=>rw[hb]at Q;cases Q
   |true=>
    rw[hb]at Q;simp only[cond_true]at Q;split at Q
    .rename_i v o hc;obtain⟨n,hn⟩:=Jm hc;refine⟨n,?_⟩;simp only[yo,e1,e2,hn];rw[hb];exact Q
    .cases Q
  |red=>
   simp only[]at Q;split at Q
   .rename_i us hf
    cases hb:qo 0 us with
    |false=>rw[hb]at Q;cases Q
    |true=>
     rw[hb]at Q;simp only[cond_true]at Q;split at Q
     .rename_i v o hc;obtain⟨n,hn⟩:=Jm hc;refine⟨n,?_⟩;simp only[yo,e1,e2,hf,hn];rw[hb];exact Q
     .cases Q
   .cases Q
  |ft _=>
   simp only[]at Q
   cases he:(first++vs++captured).isEmpty with
   |true=>exact⟨0,by simp only[yo,e1,e2,he];rw[he]at Q;exact Q⟩
   |false=>
    rw[he]at Q;simp only[cond_false]at Q
    cases hb:qo 0 (first++vs++captured)with
    |false=>rw[hb]at Q;cases Q
    |true=>
     rw[hb]at Q;simp only[cond_true]at Q;split at Q
     .rename_i v o hc;obtain⟨n,hn⟩:=Jm hc;refine⟨n,?_⟩;simp only[yo,e1,e2,hn];rw[he,hb];exact Q
     .cases Q
  |shr=>
   simp only[]at Q;split at Q
   .rename_i v o hh hc;obtain⟨n,hn⟩:=NZ hc;refine⟨n,?_⟩;simp only[yo,e1,e2,hn];exact Q
   .cases Q
 .rename_i b vs e1 e2
  cases md with
  |shr=>
   simp only[]at Q;split at Q
   .rename_i v hh hc;obtain⟨n,hn⟩:=jbe hc;refine⟨n,?_⟩;simp only[yo,e1,e2,hn];exact Q
   .cases Q
  |_=>simp at Q
 .cases Q
theorem jel {h0 al e hp op r}(Q:qe p (X p) h0 al e hp op=En r):∃n,qe p (aC p n) h0 al e hp op=En r:=by
 cases op with
 |call md x l=>exact q9n Q|append rk sz b x y=>cases rk<;>exact⟨0,Q⟩|b9 rk sz b z n c=>cases rk<;>exact⟨0,Q⟩|_=>exact⟨0,Q⟩
theorem q8e {h0 o st bP}(Q:yp p (X p) h0 o st=En bP):∃n,yp p (aC p n) h0 o st=En bP:=by
 unfold yp at *
 cases hg:nP st.env o.guard with
 |none=>simp[hg]at Q
 |some b=>
  rw[hg]at Q
  cases b with
  |false=>exact⟨0,Q⟩
  |true=>
   simp only[]at Q ⊢;split at Q
   .rename_i r G;obtain⟨n,hn⟩:=jel G;exact⟨n,by rw[hn];exact Q⟩
   .cases Q
theorem jac {h0}:∀ {l:List bT} {st bP:bn},fH p (X p) h0 l st=En bP->∃n,fH p (aC p n) h0 l st=En bP
 | [],_,_,Q=>⟨0,Q⟩
 |o::l,st,bP,Q=>by
  simp only[fH]at Q;split at Q
  .rename_i s1 Y;obtain⟨n,hn⟩:=q8e Y;obtain⟨m,hm⟩:=jac Q;refine⟨max n m,?_⟩;simp only[fH];rw[qr1 (uZ p (If n m)) hn];exact UX (uZ p (Ib n m)) hm
  .cases Q
theorem ja2 {na l k st r}(Q:l9 p (X p) na l k st=En r):∃n,l9 p (aC p n) na l k st=En r:=by
 unfold l9 at Q;split at Q
 .rename_i s1 Y;obtain⟨n,hn⟩:=jac Y;exact⟨n,by unfold l9;rw[hn];exact Q⟩
 .cases Q
theorem jgb {x ps a b st r}(Q:mb p (X p) x ps a b st=En r):∃n,mb p (aC p n) x ps a b st=En r:=by
 unfold mb at Q
 cases hn:(zx a&&zx b)with
 |false=>simp[hn]at Q
 |true=>
  simp only[hn,cond_true]at Q;split at Q
  .rename_i k first captured eR
   split at Q
   .rename_i v o hh hc;obtain⟨n,jY⟩:=NZ hc;refine⟨n,?_⟩;unfold mb;rw[hn,eR];simp only[cond_true];rw[jY];exact Q
   .cases Q
  .cases Q
theorem Br {α:Type}{x y:Option α}(Y:∀r,x=En r->y=En r)(I:∀r,y=En r->x=En r):x=y:=by
 cases x with
 |none=>
  cases y with
  |none=>rfl|some r=>exact(I r rfl)
 |some r=>exact(Y r rfl).symm
theorem jj3 {st}:X p .skip st=En (.normal,st):=kc.2 ⟨1,rfl⟩
theorem jh9 {id st}:X p (.exit id) st=En (.exit id,st):=kc.2 ⟨1,rfl⟩
theorem jrf {st}:X p .ret st=En (.ret,st):=kc.2 ⟨1,rfl⟩
theorem q67 {na:Nat}{l:List bT}{k st}:X p (.region na l k) st=l9 p (X p) na l k st:=by
 refine Br (fun r h=>?_) (fun r h=>?_)
 .obtain⟨n,hn⟩:=kc.1 h
  cases n with
  |zero=>simp[aC]at hn|succ n=>simp only[aC]at hn;exact qs9 (pg n) hn
 .obtain⟨n,hn⟩:=ja2 h;exact kc.2 ⟨n+1,by simp only[aC];exact hn⟩
theorem N0 {x:ju}{ps:List Nat}{a b st}:X p (.rangeFunc x ps a b) st=mb p (X p) x ps a b st:=by
 refine Br (fun r h=>?_) (fun r h=>?_)
 .obtain⟨n,hn⟩:=kc.1 h
  cases n with
  |zero=>simp[aC]at hn|succ n=>simp only[aC]at hn;exact qwd (pg n) hn
 .obtain⟨n,hn⟩:=jgb h;exact kc.2 ⟨n+1,by simp only[aC];exact hn⟩
theorem jrl {a b:aV}{st:bn}:X p (.seq a b) st=match X p a st with
  |some (.normal,bP)=>X p b bP
  |r=>r:=by
 refine Br (fun r h=>?_) (fun r h=>?_)
 .obtain⟨n,hn⟩:=kc.1 h
  cases n with
  |zero=>simp[aC]at hn
  |succ n=>
   rw[aC]at hn;split at hn
   .rename_i fR Y;rw[pg n _ _ _ Y];exact pg n _ _ _ hn
   .rename_i bG;rw[pg n _ _ _ hn];split
    .rename_i fR Y;cases Y;exact absurd hn (bG _)
    .rfl
 .split at h
  .rename_i fR Y;obtain⟨n,hn⟩:=kc.1 Y;obtain⟨m,hm⟩:=kc.1 h;refine kc.2 ⟨max n m+1,?_⟩;rw[aC,uZ p (If n m) _ _ _ hn];exact uZ p (Ib n m) _ _ _ hm
  .rename_i bG;obtain⟨n,hn⟩:=kc.1 h;refine kc.2 ⟨n+1,?_⟩;rw[aC,hn];split
   .rename_i fR Y;cases Y;exact absurd h (bG _)
   .rfl
theorem jj2 {c:ju}{a b:aV}{st}:X p (.cond c a b) st=match qh st.env c with
  |some (.bool t)=>bif t then X p a st else X p b st
  |_=>E6:=by
 refine Br (fun r h=>?_) (fun r h=>?_)
 .obtain⟨n,hn⟩:=kc.1 h
  cases n with
  |zero=>simp[aC]at hn
  |succ n=>
   rw[aC]at hn;split at hn
   .rename_i t ht;rw[ht];cases t
    .simp only[cond_false]at hn ⊢;exact pg n _ _ _ hn
    .simp only[cond_true]at hn ⊢;exact pg n _ _ _ hn
   .cases hn
 .split at h
  .rename_i t ht;cases t
   .simp only[cond_false]at h;obtain⟨n,hn⟩:=kc.1 h;exact kc.2 ⟨n+1,by rw[aC,ht];exact hn⟩
   .simp only[cond_true]at h;obtain⟨n,hn⟩:=kc.1 h;exact kc.2 ⟨n+1,by rw[aC,ht];exact hn⟩
  .cases h
theorem jb4 {id:Nat}{b:aV}{st}:X p (.block id b) st=match X p b st with
  |some (.exit fI,bP)=>bif Ig fI id then En (.normal,bP)else En (.exit fI,bP)
  |r=>r:=by
 refine Br (fun r h=>?_) (fun r h=>?_)
 .obtain⟨n,hn⟩:=kc.1 h
  cases n with
  |zero=>simp[aC]at hn
  |succ n=>
   rw[aC]at hn;split at hn
   .rename_i fI fR Y;rw[pg n _ _ _ Y];exact hn
   .rename_i bG;rw[pg n _ _ _ hn];split
    .rename_i fI fR Y;cases Y;exact absurd hn (bG _ _)
    .rfl
 .split at h
  .rename_i fI fR Y;obtain⟨n,hn⟩:=kc.1 Y;exact kc.2 ⟨n+1,by rw[aC,hn];exact h⟩
  .rename_i bG;obtain⟨n,hn⟩:=kc.1 h;refine kc.2 ⟨n+1,?_⟩;rw[aC,hn];split
   .rename_i fI fR Y;cases Y;exact absurd h (bG _ _)
   .rfl
theorem jj8 {b:aV}{st:bn}:X p (.loop b) st=match X p b st with
  |some (.normal,bP)=>X p (.loop b) (gc st.heap.length bP)
  |r=>r:=by
 refine Br (fun r h=>?_) (fun r h=>?_)
 .obtain⟨n,hn⟩:=kc.1 h
  cases n with
  |zero=>simp[aC]at hn
  |succ n=>
   rw[aC]at hn;split at hn
   .rename_i fR Y;rw[pg n _ _ _ Y];exact pg n _ _ _ hn
   .rename_i bG;rw[pg n _ _ _ hn];split
    .rename_i fR Y;cases Y;exact absurd hn (bG _)
    .rfl
 .split at h
  .rename_i fR Y;obtain⟨n,hn⟩:=kc.1 Y;obtain⟨m,hm⟩:=kc.1 h;refine kc.2 ⟨max n m+1,?_⟩;rw[aC,uZ p (If n m) _ _ _ hn];exact uZ p (Ib n m) _ _ _ hm
  .rename_i bG;obtain⟨n,hn⟩:=kc.1 h;refine kc.2 ⟨n+1,?_⟩;rw[aC,hn];split
   .rename_i fR Y;cases Y;exact absurd h (bG _)
   .rfl
theorem jgy {sz:Nat}{st:bn}:X p (.grow sz) st=match jn 0 st.env,jn 1 st.env with
   |some (.list Hb _ _,_),En (.int .i64 (.ofNat m),_)=>bif Jx 0 m&&Ix m 1073741824 then En (.normal,{ st with env:=[(0,.list H2 sz [],Hb)] })else E6
   |_,_=>E6:=by
 refine Br (fun r h=>?_) (fun r h=>?_)
 .obtain⟨n,hn⟩:=kc.1 h
  cases n with
  |zero=>simp[aC]at hn|succ n=>simp only[aC]at hn;exact hn
 .exact kc.2 ⟨1,by simp only[aC];exact h⟩
theorem q97 {P}(eP:bX P p){k args v ow}(h:ae p (X p) k args=En (v,ow))(hb:qo 0 args=Hb):IsoCall P k args v ow:=by
 obtain⟨n,hn⟩:=Jm h;exact jc1 eP hn hb
end
structure Bs (p q:j8)(f g:XC):Prop where
 x:nA f g
 fn:∀k args hp r,ai p f k args hp=En r->ai q g k args hp=En r
 bZ:∀k args r,ae p f k args=En r->ae q g k args=En r
 maps:∀k es,p.maps k=En es->q.maps k=En es
section
variable {p q:j8}{f g:XC}
theorem jax (h:Bs p q f g){h0 e hp md x l r}(Q:yo p f h0 e hp md x l=En r):yo q g h0 e hp md x l=En r:=by
 unfold yo at *;split at Q
 .cases md with
  |bZ=>
   simp only[]at Q ⊢
   rename_i k first captured vs _ _
   cases hb:qo 0 (first++vs++captured)with
   |false=>rw[hb]at Q;cases Q
   |true=>
    rw[hb]at Q;simp only[cond_true]at Q ⊢;split at Q
    .rename_i v o hc;rw[h.bZ _ _ _ hc];exact Q
    .cases Q
  |red=>
   simp only[]at Q ⊢;split at Q
   .rename_i us hf
    cases hb:qo 0 us with
    |false=>rw[hb]at Q;cases Q
    |true=>
     rw[hb]at Q;simp only[cond_true]at Q ⊢;split at Q
     .rename_i v o hc;rw[h.bZ _ _ _ hc];exact Q
     .cases Q
   .cases Q
  |ft _=>
   simp only[]at Q ⊢
   rename_i k first captured vs _ _ _
   cases he:(first++vs++captured).isEmpty with
   |true=>
    rw[he]at Q;simp only[cond_true]at Q ⊢;split at Q
    .rename_i es hes;rw[h.maps _ _ hes];exact Q
    .cases Q
   |false=>
    rw[he]at Q;simp only[cond_false]at Q ⊢
    cases hb:qo 0 (first++vs++captured)with
    |false=>rw[hb]at Q;cases Q
    |true=>
     rw[hb]at Q;simp only[cond_true]at Q ⊢;split at Q
     .rename_i v o hc;rw[h.bZ _ _ _ hc];exact Q
     .cases Q
  |shr=>
   simp only[]at Q ⊢;split at Q
   .rename_i v o hh hc;rw[h.fn _ _ _ _ hc];exact Q
   .cases Q
 .cases md with
  |shr=>
   simp only[]at Q ⊢;split at Q
   .rename_i v hh hc;rw[qsw h.x hc];exact Q
   .cases Q
  |_=>simp at Q
 .cases Q
theorem ji2 (h:Bs p q f g){h0 al e hp op r}(Q:qe p f h0 al e hp op=En r):qe q g h0 al e hp op=En r:=by
 cases op with
 |call md x l=>exact jax h Q|append rk sz b x y=>cases rk<;>exact Q|b9 rk sz b z n c=>cases rk<;>exact Q|_=>exact Q
theorem jah (h:Bs p q f g){h0 o st bP}(Q:yp p f h0 o st=En bP):yp q g h0 o st=En bP:=by
 unfold yp at *;split at Q
 .split at Q
  .rename_i r G;rw[ji2 h G];exact Q
  .cases Q
 .exact Q
 .cases Q
theorem jcp (h:Bs p q f g){h0}:∀ {l:List bT} {st bP:bn},fH p f h0 l st=En bP->fH q g h0 l st=En bP
 | [],_,_,Q=>Q
 |o::l,st,bP,Q=>by
  simp only[fH]at Q ⊢;split at Q
  .rename_i s1 Y;rw[jah h Y];exact jcp h Q
  .cases Q
theorem jeb (h:Bs p q f g){na l k st r}(Q:l9 p f na l k st=En r):l9 q g na l k st=En r:=by
 unfold l9 at *;split at Q
 .rename_i s1 Y;rw[jcp h Y];exact Q
 .cases Q
theorem jh6 (h:Bs p q f g){x ps a b st r}(Q:mb p f x ps a b st=En r):mb q g x ps a b st=En r:=by
 unfold mb at *
 cases hn:(zx a&&zx b)with
 |false=>simp[hn]at Q
 |true=>
  simp only[hn,cond_true]at Q ⊢;split at Q
  .split at Q
   .rename_i v o hh hc;rw[h.fn _ _ _ _ hc];exact Q
   .cases Q
  .cases Q
end
structure gq (p q:j8):Prop where
 maps:∀k es,p.maps k=En es->q.maps k=En es
 br:∀k b,p.br k=En b->q.br k=En b\/(q.br k=E6/\∃F,q.cF k=En F/\∀args hp r,ai p (X p) k args hp=En r->F args hp=En r)
 cF:∀k F,p.br k=E6->p.cF k=En F->q.br k=E6/\∃aae,q.cF k=En aae/\∀args hp r,F args hp=En r->aae args hp=En r
 cB:∀k,(∃F,q.cB k=En F/\∀args r,ae p (X p) k args=En r->F args=En r)\/(q.cB k=E6/\p.cB k=E6)
theorem q6w {p:j8}{xc:XC}{k args r}(h:ae p xc k args=En r):l7 r.1=Hb:=by
 unfold ae at h;split at h
 .split at h
  .rename_i v o _
   cases hv:l7 v with
   |false=>rw[hv]at h;cases h|true=>rw[hv]at h;cases h;exact hv
  .cases h
 .split at h
  .split at h
   .rename_i v' _
    cases hv:l7 v' with
    |false=>rw[hv]at h;cases h|true=>rw[hv]at h;cases h;exact hv
   .cases h
  .cases h
theorem gq.step {p q:j8}(h:gq p q){n:Nat}(M:nA (aC p n) (X q)):Bs p q (aC p n) (X q):=by
 have hfn:∀k args hp r,ai p (aC p n) k args hp=En r->ai q (X q) k args hp=En r:=by
  intro k args hp r Q
  cases hb:p.br k with
  |some b=>
   rcases h.br k b hb with hq|⟨hq,F,hF,UY⟩
   .unfold ai at Q ⊢;rw[hb]at Q;rw[hq];exact qr5 M Q
   .have:=UY args hp r (NW (pg n) Q);unfold ai;rw[hq,hF];exact this
  |none=>
   unfold ai at Q;rw[hb]at Q
   cases G:p.cF k with
   |none=>rw[G]at Q;cases Q
   |some F=>
    rw[G]at Q;obtain⟨hq,aae,hG,hGk⟩:=h.cF k F hb G;unfold ai;rw[hq,hG];exact hGk args hp r Q
 refine⟨M,hfn,?_,h.maps⟩;intro k args r Q;have lf:=q6w Q;rcases h.cB k with⟨F,hF,UY⟩|⟨hq,hp⟩
 .have:=UY args r (NY (pg n) Q);unfold ae;rw[hF];obtain⟨v,o⟩:=r;simp only[this];rw[lf];rfl
 .unfold ae at Q ⊢;rw[hp]at Q;rw[hq];simp only[]at Q ⊢;split at Q
  .rename_i v o hh hc;rw[hfn _ _ _ _ hc];exact Q
  .cases Q
theorem gq.aC {p q:j8}(h:gq p q):∀n,nA (aC p n) (X q)
 |0=>fun c st r Q=>by simp[Go.Abs.aC]at Q
 |n+1=>by
  have ih:=h.aC n;have G:=h.step ih;intro c st r Q
  cases c with
  |region na l k=>rw[q67];simp only[Go.Abs.aC]at Q;exact jeb G Q|rangeFunc x ps a b=>rw[N0];simp only[Go.Abs.aC]at Q;exact jh6 G Q|skip=>rw[jj3];simpa[Go.Abs.aC]using Q|exit id=>rw[jh9];simpa[Go.Abs.aC]using Q|ret=>rw[jrf];simpa[Go.Abs.aC]using Q
  |seq a b=>
   rw[jrl];rw[Go.Abs.aC]at Q;split at Q
   .rename_i fR Y;rw[ih _ _ _ Y];exact ih _ _ _ Q
   .rename_i bG;rw[ih _ _ _ Q];split
    .rename_i fR Y;cases Y;exact absurd Q (bG _)
    .rfl
  |cond c a b=>
   rw[jj2];rw[Go.Abs.aC]at Q;split at Q
   .rename_i t ht;rw[ht];cases t
    .exact ih _ _ _ Q
    .exact ih _ _ _ Q
   .cases Q
  |block id b=>
   rw[jb4];rw[Go.Abs.aC]at Q;split at Q
   .rename_i fI fR Y;rw[ih _ _ _ Y];exact Q
   .rename_i bG;rw[ih _ _ _ Q];split
    .rename_i fI fR Y;cases Y;exact absurd Q (bG _ _)
    .rfl
  |loop b=>
   rw[jj8];rw[Go.Abs.aC]at Q;split at Q
   .rename_i fR Y;rw[ih _ _ _ Y];exact ih _ _ _ Q
   .rename_i bG;rw[ih _ _ _ Q];split
    .rename_i fR Y;cases Y;exact absurd Q (bG _)
    .rfl
  |grow sz=>rw[jgy];rw[Go.Abs.aC]at Q;exact Q|stuck=>simp[Go.Abs.aC]at Q
theorem gq.ai {p q:j8}(h:gq p q){k args hp r}(Q:ai p (Go.Abs.X p) k args hp=En r):Go.Abs.ai q (Go.Abs.X q) k args hp=En r:=by
 obtain⟨n,hn⟩:=NZ Q;exact(h.step (h.aC n)).fn _ _ _ _ hn
theorem gq.ae {p q:j8}(h:gq p q){k args r}(Q:ae p (Go.Abs.X p) k args=En r):Go.Abs.ae q (Go.Abs.X q) k args=En r:=by
 obtain⟨n,hn⟩:=Jm Q;exact(h.step (h.aC n)).bZ _ _ _ hn
end Go.Abs
namespace Go.Abs
section
variable {P:Program}
theorem Tabs.table {w}(h:Tabs P w){g}(hg:P.globalNamed pI=En g):Lib.TabIs P w pI .u64 Lib.pow10Tab:=(h g (.inl hg)).2.1 hg
theorem Tabs.length {w}(h:Tabs P w){g}(hg:P.globalNamed AP=En g):∃m,w.cell? ⟨g,0,E6⟩=En (.int .i64 m):=(h g (.inr (.inl hg))).2.2.1 hg
theorem Jn {k args v}(h:∀(K:Nat->Nat->Option Value) (w:World) (vs:List Value),Tabs P w->(∀r o u,K r o=En u->w.cell? ⟨r,o,E6⟩=En u)->bj (.bZ K) args vs ->
  ∃u,bS (.bZ K) v u/\Calls P k ⟨vs⟩ w fun e w'=>e=.returned u/\Ext w w'):IsoCall P k args v H2:=by
 intro K w vs ht Y I Q;obtain⟨u,hu,hc⟩:=h K w vs ht Y Q;refine callsIn_wide.2 (hc.mono ?_);rintro e w' ⟨rfl,M⟩;exact⟨u,K,rfl,M,fun _ _ _ h=>h,fun _ _ _=>rfl,fun r o x hk=>M.cell (Y r o x hk),I,hu,fun h=>by cases h⟩
theorem jcc {C r}:∀ {xs:List AVal} {us:List Value} {o:Nat},bj C xs us->(∀x∈xs,x.flat=[x])->(∀(j:Nat) u,us[j]?=En u->C.K r (o+j)=En u)->bB C r 1 xs o
 | [],_,o,_,_,_=>.fO _ _ _
 |x::xs,us,o,h,hf,hk=>by
  cases h with
  |cons _ _ u us M Q=>
   have xS:=hf x (Iy ..);refine .dp _ _ _ _ _ (by rw[xS];rfl) ?_ (jcc Q (fun y hy=>hf y (Iw _ hy)) fun j u hj=>?_)
   .rw[xS];exact .dz _ _ _ _ u (by have:=hk 0 u rfl;simpa using this) M (.ik _ _)
   .have:=hk (j+1) u (by simpa using hj);rw[show o+1+j=o+(j+1) by omega];exact this
theorem jpq {k args xs us}{t:TypeId}(hf:∀x∈xs,x.flat=[x])(hO:∀K,bj (.bZ K) xs us)(h1u:∀u∈us,u.oneCell'=Hb)
  (h:∀(K:Nat->Nat->Option Value) (w:World) (vs:List Value),Tabs P w->(∀r o u,K r o=En u->w.cell? ⟨r,o,E6⟩=En u)->bj (.bZ K) args vs ->
  Calls P k ⟨vs⟩ w fun e w'=>e=.returned (.slice (En ⟨w.heap.size,0,E6⟩) xs.length xs.length)/\w'=w.alloc (.cells us.toArray t)):IsoCall P k args (.list H2 1 xs) H2:=by
 intro K w vs ht Y I Q;refine callsIn_wide.2 ((h K w vs ht Y Q).mono ?_);rintro e w' ⟨rfl,rfl⟩;have M:Ext w (w.alloc (.cells us.toArray t)):=Ext.alloc w _ (fun c t fr h=>by cases h;rfl)
 have sX:∀o u,K w.heap.size o=En u->False:=fun o u hk=>by
  have:=Y _ _ _ hk;simp only[World.cell?,Array.getElem?_eq_none (Jw _)]at this;cases this
 refine⟨_,fun r o=>if r=w.heap.size then us[o]? else K r o,rfl,M,?_,?_,?_,?_,?_,fun h=>by cases h⟩
 .intro r o x hk;have bG:r≠w.heap.size:=fun e=>sX o x (e▸hk);simp only[if_neg bG];exact hk
 .intro r o bg
  have bG:r≠w.heap.size:=by omega
  simp only[if_neg bG]
 .intro r o x hk;simp only[]at hk;split at hk
  .next Q=>
   subst Q
   have hg:(w.alloc (.cells us.toArray t)).heap[w.heap.size]?=En (.cells us.toArray t):=by rw[vZ,if_pos rfl]
   simp only[World.cell?];rw[hg];simpa using hk
  .exact M.cell (Y r o x hk)
 .intro r o x hk;simp only[]at hk;split at hk
  .exact h1u x (Il hk)
  .exact I r o x hk
 .refine .list _ _ _ _ _ (Jw _) (jcc (hO _) hf fun j u hj=>?_);show(if w.heap.size=w.heap.size then us[0+j]? else K w.heap.size (0+j))=En u;rw[if_pos rfl,Nat.zero_add];exact hj
theorem IsoCall.shr {k args v ow}(h:IsoCall P k args v ow)(hb:qo 0 args=Hb)(hp:l7 v=Hb)(eP:qf):Bc P k args eP v H2 eP:=by
 intro C ω w vs Q m;have kT:bj (.bZ C.K) args vs:=aM.shift (C:=C) (C':=.bZ C.K) 0 (fun _ _ _ h=>h) (fun b r bg=>by omega) Q hb;refine CallsIn.mono (h C.K w vs m.tabs m.know m.dk kT) ?_;rintro e w' ⟨u,K',rfl,q1,q2,q3,q4,q5,q6,_⟩;refine⟨u,{ C with K:=K' },ω,rfl,⟨q2,fun _ _ h=>h,rfl,fun _ h=>h,fun _ h=>h⟩,m.bZ q1 q2 q3 q4 q5,?_,fun h=>by cases h⟩;exact aM.shift (C:=.bZ K') (C':={ C with K:=K' }) 0 (fun _ _ _ h=>h) (fun b r bg=>by omega) q6 hp
end
open Go
def FW:aj->aj->Bool
 | [],[]=>Hb|a::l,b::m=>bif Ig a.toNat b.toNat then FW l m else H2|_,_=>H2
theorem qr2:∀ {l m:aj},FW l m=Hb->l=m
 | [],[],_=>rfl
 | [],_::_,h=>by simp[FW]at h
 |_::_,[],h=>by simp[FW]at h
 |a::l,b::m,h=>by
  simp only[FW,H8]at h;split at h
  .next hb=>rw[UInt8.toNat_inj.1 (Hc hb),qr2 h]
  .exact absurd h (by simp)
def N1:Int->Int->Bool
 | .ofNat a,.ofNat b=>Ig a b| .negSucc a,.negSucc b=>Ig a b|_,_=>H2
theorem jaf:∀ {a b:Int},N1 a b=Hb->a=b
 | .ofNat _,.ofNat _,h=>by rw[Hc h]
 | .negSucc _,.negSucc _,h=>by rw[Hc h]
 | .ofNat _,.negSucc _,h=>by simp[N1]at h
 | .negSucc _,.ofNat _,h=>by simp[N1]at h
mutual
def jP:AVal->AVal->Bool
 | .bool a,.bool b=>a == b| .int k a,.int k' b=>bif decide (k=k')then N1 a b else H2| .str a,.str b=>FW a b| .list a n xs,.list b m ys=>bif a == b then bif Ig n m then u0 xs ys else H2 else H2| .agg xs,.agg ys=>u0 xs ys| .aJ xs,.aJ ys=>u0 xs ys|_,_=>H2
def u0:List AVal->List AVal->Bool
 | [],[]=>Hb|a::l,b::m=>bif jP a b then u0 l m else H2|_,_=>H2
end
mutual
theorem q3p:∀ {a b:AVal},jP a b=Hb->a=b:=by
 intro a b h
 match a,b with
 | .bool _,.bool _=>simp only[jP,beq_iff_eq]at h;rw[h]
 | .int k a,.int k' b=>
  simp only[jP,H8,decide_eq_true_eq]at h;split at h
  .next hk=>rw[hk,jaf h]
  .exact absurd h (by simp)
 | .str _,.str _=>simp only[jP]at h;rw[qr2 h]
 | .list a n xs,.list b m ys=>
  simp only[jP,H8,beq_iff_eq]at h;split at h
  .next Y=>
   split at h
   .next I=>rw[Y,Hc I,FX h]
   .exact absurd h (by simp)
  .exact absurd h (by simp)
 | .agg _,.agg _=>simp only[jP]at h;rw[FX h]| .aJ _,.aJ _=>simp only[jP]at h;rw[FX h]| .bool _,.int .. | .bool _,.str _ | .bool _,.list .. | .bool _,.agg _ | .bool _,.aJ _=>simp[jP]at h| .int ..,.bool _ | .int ..,.str _ | .int ..,.list .. | .int ..,.agg _ | .int ..,.aJ _=>simp[jP]at h| .str _,.bool _ | .str _,.int .. | .str _,.list .. | .str _,.agg _ | .str _,.aJ _=>simp[jP]at h| .list ..,.bool _ | .list ..,.int .. | .list ..,.str _ | .list ..,.agg _ | .list ..,.aJ _=>simp[jP]at h| .agg _,.bool _ | .agg _,.int .. | .agg _,.str _ | .agg _,.list .. | .agg _,.aJ _=>simp[jP]at h| .aJ _,.bool _ | .aJ _,.int .. | .aJ _,.str _ | .aJ _,.list .. | .aJ _,.agg _=>simp[jP]at h| .ms ..,_ | .ptr ..,_ | .aq _,_ | .cW _,_ | .b6,_ | .map _,_ | .b8,_ | .fn ..,_ | .cu,_ | .undef,_ | .any,_ | .ay ..,_ | .dT ..,_=>simp[jP]at h| .bool _,.ms .. | .bool _,.ptr .. | .bool _,.aq _ | .bool _,.cW _ | .bool _,.b6 | .bool _,.map _ | .bool _,.b8 | .bool _,.fn .. | .bool _,.cu | .bool _,.undef | .bool _,.ay .. | .bool _,.dT ..=>simp[jP]at h| .int ..,.ms .. | .int ..,.ptr .. | .int ..,.aq _ | .int ..,.cW _ | .int ..,.b6 | .int ..,.map _ | .int ..,.b8 | .int ..,.fn .. | .int ..,.cu | .int ..,.undef | .int ..,.ay .. | .int ..,.dT ..=>simp[jP]at h| .str ..,.ms .. | .str ..,.ptr .. | .str ..,.aq _ | .str ..,.cW _ | .str ..,.b6 | .str ..,.map _ | .str ..,.b8 | .str ..,.fn .. | .str ..,.cu | .str ..,.undef | .str ..,.ay .. | .str ..,.dT ..=>simp[jP]at h| .list ..,.ms .. | .list ..,.ptr .. | .list ..,.aq _ | .list ..,.cW _ | .list ..,.b6 | .list ..,.map _ | .list ..,.b8 | .list ..,.fn .. | .list ..,.cu | .list ..,.undef | .list ..,.ay .. | .list ..,.dT ..=>simp[jP]at h| .agg ..,.ms .. | .agg ..,.ptr .. | .agg ..,.aq _ | .agg ..,.cW _ | .agg ..,.b6 | .agg ..,.map _ | .agg ..,.b8 | .agg ..,.fn .. | .agg ..,.cu | .agg ..,.undef | .agg ..,.ay .. | .agg ..,.dT ..=>simp[jP]at h| .aJ ..,.ms .. | .aJ ..,.ptr .. | .aJ ..,.aq _ | .aJ ..,.cW _ | .aJ ..,.b6 | .aJ ..,.map _ | .aJ ..,.b8 | .aJ ..,.fn .. | .aJ ..,.cu | .aJ ..,.undef | .aJ ..,.ay .. | .aJ ..,.dT ..=>simp[jP]at h
theorem FX:∀ {l m:List AVal},u0 l m=Hb->l=m:=by
 intro l m h
 match l,m with
 | [],[]=>rfl| [],_::_=>simp[u0]at h|_::_,[]=>simp[u0]at h
 |a::l,b::m=>
  simp only[u0,H8]at h;split at h
  .next Y=>rw[q3p Y,FX h]
  .exact absurd h (by simp)
end
abbrev Row:=List AVal×AVal×Bool
def Fm (args:List AVal):List Row->Option (AVal×Bool)
 | []=>E6|r::l=>bif u0 r.1 args then En r.2 else Fm args l
theorem SZ {args x}:∀ {l:List Row},Fm args l=En x->(args,x)∈l
 | [],h=>by simp[Fm]at h
 |r::l,h=>by
  simp only[Fm,H8]at h;split at h
  .next hb=>
   simp only[En.injEq]at h;rw[<-FX hb,<-h];exact Iy ..
  .exact Iw _ (SZ h)
def SW (P:Program)(tab:Nat->ak Row):Prop:=
 ∀k l,tab k=En l->∀r∈l,IsoCall P k r.1 r.2.1 r.2.2
def xF:List (Nat×List Row)->Nat->ak Row
 | [],_=>E6|(k,l)::t,n=>bif Ig k n then En l else xF t n
def UZ (P:Program)(k:Nat):List Row->Prop
 | []=>True|r::l=>IsoCall P k r.1 r.2.1 r.2.2/\UZ P k l
def jhd (P:Program):List (Nat×List Row)->Prop
 | []=>True|(k,l)::t=>UZ P k l/\jhd P t
theorem q87 {P k}:∀ {l:List Row},UZ P k l->∀r∈l,IsoCall P k r.1 r.2.1 r.2.2
 |r::l,h,x,M=>by
  cases M with
  |head=>exact h.1|tail _ M=>exact q87 h.2 x M
theorem SX {P}:∀ {t:List (Nat×List Row)},jhd P t->SW P (xF t)
 |(j,m)::t,h,k,l,hk=>by
  simp only[xF,H8]at hk;split at hk
  .next hb=>
   rw[Hc hb]at h;simp only[En.injEq]at hk;subst hk;exact q87 h.1
  .exact SX h.2 k l hk
theorem qx2 {P p}(h:bX P p){n k b ow Y es}(Q:ai p (iX p n) k [] []=En (.map b,ow,Y))(hb:Y[b]?=En (.map es))(he:kr 0 es=Hb):Enters P k/\T9 P k es:=
 jfa h (cJ.I8 (NM h n).1) (by rw[<-NS];exact Q) hb he
theorem jj {P p}(h:bX P p){n k args v o}(Q:ae p (iX p n) k args=some (v,o))(hb:qo 0 args=true:=by rfl):IsoCall P k args v o:=
 jc1 h (jik Q) hb
end Go.Abs
