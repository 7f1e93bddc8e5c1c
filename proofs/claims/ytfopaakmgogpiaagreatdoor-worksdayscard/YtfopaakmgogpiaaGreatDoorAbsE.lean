/- Each operation by itself, third part. -/
import Derived.Test.YtfopaakmgogpiaaGreatDoorAbsD
import Derived.RangeFuncLeaves
open Option renaming some→I,map_eq_some_iff→E6,none→Gm,isSome_none→Hd,isNone_some→Sk,map→Tk
open Bool renaming and_eq_true→En,true→Gk,false_eq_true→Gl,false→G2,or_eq_true→Nh
open Nat renaming eq_of_beq_eq_true→E2,le_of_ble_eq_true→E3,beq→Gn,le_trans→Gp,ble→Ha,lt_of_lt_of_le→H7,blt→Mm,zero_add→N0,blt_eq→Sb
open Array renaming getElem?_eq_some_iff→E4,getD_eq_getD_getElem?→N1,ext'→Sd,replicate→Ss
open List renaming mem_of_getElem?→Gq,getElem?_eq_some_iff→Hb,all_eq_true→If,length_take→Md,getElem?_map→Mn,getElem?_set_ne→Mr,getElem?_eq_getElem→N2,isEmpty_iff→N3,length_set→N4,length_map→R6,zip_cons_cons→Sg,flatMap_cons→Sn,length_drop→Sp,foldl_cons→St,mem_cons→Sx,all_cons→Sy,map_cons→Sz
namespace Go.Abs
section
variable {P:Program}{p:qt}{xc:XC}{C C0:ay}{ω:Nat→Option Loc}{w w0:World}{hp:j8}{env:Env}{a:Act}{o:Oper}{d:Loc}{h:qb}{md:jd}{r h0:Nat}{dst:Option Nat}{al:Option (List Nat)}{cn:qw}{res:qq}
theorem jdd (m:av P C ω w0 C0 hp w)(e:aj C ω w w0.heap.size env a.tmps){t:TypeId}{ps:Array (Nat×Operand)}(ho:o.op=.build t ps)(hc:cx P h md r dst (.build t ps)=I cn)(hs:za p xc h0 al env hp cn=I res):dR P C C0 w0 a d env o w res:=by
 simp only[cx]at hc
 split at hc
 ·rename_i fs z ht hz
  split at hc
  ·rename_i hall
   obtain⟨ft,lP,rfl⟩:=E6.1 hc
   simp only[za,zi]at hs
   split at hs
   ·rename_i qs hq
    split at hs
    ·rename_i cs hf
     obtain rfl:=zx hs
     exact yc m e (qya e.bT ho ht hz (fun f hf=>If.1 hall f hf) lP hq hf)
    ·cases hs
   ·cases hs
  ·cases hc
 ·rename_i len el z ht hz
  split at hc
  ·rename_i n hn
   obtain⟨ft,lP,rfl⟩:=E6.1 hc
   simp only[za,zi]at hs
   split at hs
   ·rename_i qs hq
    split at hs
    ·rename_i cs hf
     obtain rfl:=zx hs
     exact yc m e (qzf e.bT ho ht hz hn lP hq hf)
    ·cases hs
   ·cases hs
  ·cases hc
 ·cases hc
theorem qy3 (m:av P C ω w0 C0 hp w)(e:aj C ω w w0.heap.size env a.tmps){t:TypeId}{n:Nat}{ps:Array (Nat×Operand)}(ho:o.op=.buildSlice t n ps)(hc:cx P h md r dst (.buildSlice t n ps)=I cn)(hs:za p xc h0 al env hp cn=I res):dR P C C0 w0 a d env o w res:=by
 simp only[cx]at hc
 split at hc
 ·rename_i el ht
  split at hc
  ·rename_i sz z ag es hn hz cK lP
   split at hc
   ·rename_i hb
    cases hc
    simp only[En,decide_eq_true_eq,beq_iff_eq]at hb
    generalize (dst.map (h.vec.contains ·)).getD G2=bb at hs
    cases bb with
    |true=>
     simp only[if_true,za,zm]at hs
     split at hs
     ·rename_i qs hq
      split at hs
      ·rename_i xs hx
       cases zE:zw 0 xs with
       |false=>rw[zE]at hs;cases hs
       |true=>
        rw[zE]at hs
        simp only[cT]at hs
        split at hs
        ·rename_i h' cW
         obtain rfl:=zx hs
         exact .inl (jfo m e ho ht hn hz hb.1.1.1.1 hb.1.1.1.2 hb.1.1.2 lP hq hx zE cW)
        ·cases hs
      ·cases hs
     ·cases hs
    |false=>
    simp only[Gl,if_false,za,zi]at hs
    split at hs
    ·rename_i qs hq
     split at hs
     ·rename_i xs hx
      cases hs
      exact .inl (qzk m e ho ht hn hz hb.1.1.1.1 hb.1.1.1.2 hb.1.1.2 lP hq hx)
     ·cases hs
    ·cases hs
   ·cases hc
  ·cases hc
 ·cases hc
theorem q04 (m:av P C ω w0 C0 hp w)(e:aj C ω w w0.heap.size env a.tmps){t:TypeId}{x y:Operand}(ho:o.op=.makeSlice t x y)(hc:cx P h md r dst (.makeSlice t x y)=I cn)(hs:za p xc h0 al env hp cn=I res):dR P C C0 w0 a d env o w res:=by
 simp only[cx]at hc
 split at hc
 ·rename_i el ht
  split at hc
  ·rename_i sz b z ag x' y' hn hb hz cK h1 h2
   split at hc
   ·cases hc
    generalize hR:(if(Tk (fun x=>h.bA.contains x) dst).getD G2=Gk then I r else Gm)=R at hs
    cases R with
    |some rr=>
     simp only[za,zm]at hs
     split at hs
     ·rename_i n c e1 e2
      cases hk:(Gn n c&&Ha n 1073741824&&Ha b 4096&&Gn z.length sz&&Mm 0 sz&&z.all ze)with
      |false=>simp[hk]at hs
      |true=>
       simp only[hk,cT]at hs
       split at hs
       ·rename_i h' cW
        obtain rfl:=zx hs
        simp only[En]at hk
        obtain⟨⟨⟨⟨⟨k1,k2⟩,k3⟩,k4⟩,k5⟩,k6⟩:=hk
        obtain rfl:=E2 k1
        exact .inl (qy1 m e ho ht hn hb hz (Sb.mp k5) (E2 k4) h1 h2 e1 e2 (E3 k2) (E3 k3) cW)
       ·cases hs
     ·cases hs
    |none=>
     simp only[za,zi]at hs
     split at hs
     ·rename_i n c e1 e2
      cases hk:(Gn n c&&Ha n 1073741824&&Ha b 4096&&Gn z.length sz&&Mm 0 sz&&z.all ze)with
      |false=>simp[hk]at hs
      |true=>
       simp only[hk,cT]at hs
       cases hs
       simp only[En]at hk
       obtain⟨⟨⟨⟨⟨k1,k2⟩,k3⟩,k4⟩,k5⟩,k6⟩:=hk
       obtain rfl:=E2 k1
       exact .inl (q6b m e ho ht hn hb hz (Sb.mp k5) (E2 k4) h1 h2 e1 e2 (E3 k2) (E3 k3))
     ·cases hs
   ·cases hc
  ·cases hc
 ·cases hc
theorem jbl (m:av P C ω w0 C0 hp w)(e:aj C ω w w0.heap.size env a.tmps){t:TypeId}{x:Operand}{lo hi mx:Option Operand}(ho:o.op=.slice t x lo hi mx)(hc:cx P h md r dst (.slice t x lo hi mx)=I cn)(hs:za p xc h0 al env hp cn=I res):dR P C C0 w0 a d env o w res:=by
 cases mx with
 |some _=>simp[cx]at hc
 |none=>
  simp only[cx]at hc
  split at hc
  ·rename_i x' kX fh h1 h2 h3
   split at hc
   ·rename_i ht
    cases hc
    simp only[za,zi]at hs
    split at hs
    ·rename_i s hv
     split at hs
     ·rename_i j hj
      split at hs
      ·rename_i i fh
       obtain rfl:=zx hs
       exact yc m e (q25 e.bT ho ht h1 h2 h3 hv hj fh)
      ·cases hs
     ·cases hs
    ·cases hs
   ·rename_i el ht
    obtain⟨sz,hn,rfl⟩:=E6.1 hc
    simp only[za,zi]at hs
    split at hs
    ·rename_i n cJ xs hv
     cases hk:(Gn sz cJ||xs.isEmpty)with
     |false=>simp[hk]at hs
     |true=>
      simp only[hk,cT]at hs
      split at hs
      ·rename_i j hj
       split at hs
       ·rename_i i fh
        obtain rfl:=zx hs
        refine yc m e (q0v e.bT ho ht hn h1 h2 h3 hv (.inr ⟨n,cJ,xs,rfl,?_,hj,fh,rfl⟩))
        rcases Nh _ _▸hk with hk|hk
        ·exact .inl (E2 hk)
        ·exact .inr (N3.1 hk)
       ·cases hs
      ·cases hs
    ·rename_i b q len hv
     split at hs
     ·rename_i j hj
      split at hs
      ·rename_i i fh
       cases hk:(Gn i 0||Mm i j)with
       |false=>simp[hk]at hs
       |true=>
        simp only[hk,cT]at hs
        obtain rfl:=zx hs
        refine yc m e (q0v e.bT ho ht hn h1 h2 h3 hv (.inl ⟨b,q,len,rfl,hj,fh,?_,rfl⟩))
        rcases Nh _ _▸hk with hk|hk
        ·exact .inl (E2 hk)
        ·exact .inr (Sb.mp hk)
      ·cases hs
     ·cases hs
    ·rename_i b bu len hv
     split at hs
     ·rename_i j hj
      split at hs
      ·rename_i i fh
       cases hk:Gn i 0 with
       |false=>simp[hk]at hs
       |true=>
        simp only[hk,cT]at hs
        obtain rfl:=zx hs
        obtain rfl:=E2 hk
        exact yc m e (jap e.bT ho ht hn h1 h2 h3 hv hj fh)
      ·cases hs
     ·cases hs
    ·cases hs
   ·rename_i n el ht
    obtain⟨sz,hn,rfl⟩:=E6.1 hc
    simp only[za,zi]at hs
    split at hs
    ·rename_i b q hv
     split at hs
     ·rename_i j hj
      split at hs
      ·rename_i i fh
       cases hk:(Gn i 0||Mm i j)with
       |false=>simp[hk]at hs
       |true=>
        simp only[hk,cT]at hs
        obtain rfl:=zx hs
        refine yc m e (q3k e.bT ho ht hn h1 h2 h3 hv hj fh ?_)
        rcases Nh _ _▸hk with hk|hk
        ·exact .inl (E2 hk)
        ·exact .inr (Sb.mp hk)
      ·cases hs
     ·cases hs
    ·cases hs
   ·cases hc
  ·cases hc
theorem q03 (m:av P C ω w0 C0 hp w)(e:aj C ω w w0.heap.size env a.tmps){t:TypeId}{x:Operand}{i:Nat}(ho:o.op=.fieldAddr t x i)(hc:cx P h md r dst (.fieldAddr t x i)=I cn)(hs:za p xc h0 al env hp cn=I res):dR P C C0 w0 a d env o w res:=by
 simp only[cx]at hc
 split at hc
 ·rename_i fs ht
  split at hc
  ·rename_i f hf
   split at hc
   ·rename_i ag n x' cK hn h1
    split at hc
    ·rename_i hb
     cases hc
     simp only[En,decide_eq_true_eq]at hb
     simp only[za,zi]at hs
     split at hs
     ·rename_i b q hv
      obtain rfl:=zx hs
      exact yc m e (qp1 (ag:=ag) e.bT ho ht hf hn hb.1 h1 hv (.inl ⟨b,q,rfl,rfl⟩))
     ·rename_i cs hv
      split at hs
      ·rename_i z hz
       cases hk:Bool.xor ag z.isAgg with
       |true=>simp[hk]at hs
       |false=>
        simp only[hk,cond_false]at hs
        obtain rfl:=zx hs
        exact yc m e (qp1 e.bT ho ht hf hn hb.1 h1 hv (.inr ⟨cs,z,rfl,hz,hk,rfl⟩))
      ·cases hs
     ·rename_i b bu q hv
      obtain rfl:=zx hs
      exact yc m e (qyz e.bT ho ht hf hn hb.1 h1 hv)
     ·cases hs
    ·cases hc
   ·cases hc
  ·cases hc
 ·cases hc
theorem jcf (m:av P C ω w0 C0 hp w)(e:aj C ω w w0.heap.size env a.tmps){t:TypeId}{x:Operand}{i:Nat}(ho:o.op=.field t x i)(hc:cx P h md r dst (.field t x i)=I cn)(hs:za p xc h0 al env hp cn=I res):dR P C C0 w0 a d env o w res:=by
 simp only[cx]at hc
 split at hc
 ·rename_i fs ht
  split at hc
  ·rename_i f hf
   split at hc
   ·rename_i ag n x' cK hn h1
    cases hc
    simp only[za,zi]at hs
    split at hs
    ·rename_i cs hv
     obtain⟨z,hz,rfl⟩:=ug hs
     exact yc m e (jc3 e.bT ho ht hf cK hn h1 hv hz)
    ·cases hs
   ·cases hc
  ·cases hc
 ·cases hc
theorem q1g (m:av P C ω w0 C0 hp w)(e:aj C ω w w0.heap.size env a.tmps){t:TypeId}{x i:Operand}(ho:o.op=.indexAddr t x i)(hc:cx P h md r dst (.indexAddr t x i)=I cn)(hs:za p xc h0 al env hp cn=I res):dR P C C0 w0 a d env o w res:=by
 simp only[cx]at hc
 split at hc
 ·rename_i x' i' h1 h2
  split at hc
  ·rename_i el ht
   split at hc
   ·rename_i sz hn
    split at hc
    ·cases hc
     simp only[za,zi]at hs
     split at hs
     ·rename_i nl cJ xs iv hv hi
      cases hk:(Gn sz cJ||xs.isEmpty)with
      |false=>simp[hk]at hs
      |true=>
       simp only[hk,cT]at hs
       split at hs
       ·rename_i j hj
        split at hs
        ·rename_i z hz
         obtain rfl:=zx hs
         have bw:xs.isEmpty=G2:=by
          have:=(Hb.1 hz).1
          cases xs with
          |nil=>simp at this
          |cons _ _=>rfl
         rw[bw,Bool.or_false]at hk
         obtain rfl:=E2 hk
         exact yc m e (qpw e.bT ho ht hn h1 h2 hv hi (.inr ⟨nl,xs,z,j,rfl,hj,hz,rfl⟩))
        ·cases hs
       ·cases hs
     ·rename_i b q len iv hv hi
      split at hs
      ·rename_i j hj
       obtain rfl:=zx hs
       exact yc m e (qpw e.bT ho ht hn h1 h2 hv hi (.inl ⟨b,q,len,j,rfl,hj,rfl⟩))
      ·cases hs
     ·rename_i b bu len iv hv hi
      split at hs
      ·rename_i j hj
       obtain rfl:=zx hs
       exact yc m e (qzx e.bT ho ht hn h1 h2 hv hi hj)
      ·cases hs
     ·cases hs
    ·cases hc
   ·cases hc
  ·rename_i n el ht
   split at hc
   ·rename_i sz ag hn cK
    split at hc
    ·cases hc
     simp only[za,zi]at hs
     split at hs
     ·rename_i b q iv hv hi
      split at hs
      ·rename_i j hj
       obtain rfl:=zx hs
       exact yc m e (qr5 (ag:=ag) e.bT ho ht hn h1 h2 hv hi hj (.inl ⟨b,q,rfl,rfl⟩))
      ·cases hs
     ·rename_i cs iv hv hi
      split at hs
      ·rename_i j hj
       split at hs
       ·rename_i z hz
        cases hk:Bool.xor ag z.isAgg with
        |true=>simp[hk]at hs
        |false=>
         simp only[hk,cond_false]at hs
         obtain rfl:=zx hs
         exact yc m e (qr5 e.bT ho ht hn h1 h2 hv hi hj (.inr ⟨cs,z,rfl,hz,hk,rfl⟩))
       ·cases hs
      ·cases hs
     ·cases hs
    ·cases hc
   ·cases hc
  ·cases hc
 ·cases hc
theorem jb4 (m:av P C ω w0 C0 hp w)(e:aj C ω w w0.heap.size env a.tmps){t:TypeId}{x i:Operand}(ho:o.op=.index t x i)(hc:cx P h md r dst (.index t x i)=I cn)(hs:za p xc h0 al env hp cn=I res):dR P C C0 w0 a d env o w res:=by
 simp only[cx]at hc
 split at hc
 ·rename_i x' i' h1 h2
  split at hc
  ·rename_i ht
   cases hc
   simp only[za,zi]at hs
   split at hs
   ·rename_i s iv hv hi
    split at hs
    ·rename_i j hj
     split at hs
     ·rename_i c dh
      obtain rfl:=zx hs
      exact yc m e (q3n e.bT ho ht h1 h2 hv hi hj dh)
     ·cases hs
    ·cases hs
   ·cases hs
  ·rename_i n el ht
   split at hc
   ·rename_i sz ag hn cK
    cases hc
    simp only[za,zi]at hs
    split at hs
    ·rename_i cs iv hv hi
     split at hs
     ·rename_i j hj
      obtain⟨z,hz,rfl⟩:=ug hs
      exact yc m e (jc8 e.bT ho ht cK hn h1 h2 hv hi hj hz)
     ·cases hs
    ·cases hs
   ·cases hc
  ·cases hc
 ·cases hc
theorem q5l (m:av P C ω w0 C0 hp w)(e:aj C ω w w0.heap.size env a.tmps){c:Call}(ho:o.op=.call c)(nU:∀f,c.callee≠.value f)(hc:yN P h md r dst c=I cn)(hs:za p xc h0 al env hp cn=I res):dR P C C0 w0 a d env o w res:=by
 unfold yN at hc
 split at hc
 ·rename_i f hf;exact absurd hf (nU f)
 ·rename_i dx
  split at hc
  ·rename_i x t dG dU
   split at hc
   ·rename_i ht
    obtain⟨x',hx,rfl⟩:=E6.1 hc
    simp only[za,zi]at hs
    split at hs<;>first|(exfalso;omega)|skip
    ·rename_i s _ hv
     obtain rfl:=zx hs
     exact yc m e (Sh e.bT ho dx dG dU hx hv (.inl ⟨ht,s,rfl,rfl⟩))
    ·cases hs
   ·rename_i el ht
    obtain⟨x',hx,rfl⟩:=E6.1 hc
    simp only[za,zi]at hs
    split at hs<;>first|(exfalso;omega)|skip
    ·rename_i n sz xs _ hv
     obtain rfl:=zx hs
     exact yc m e (Sh e.bT ho dx dG dU hx hv (.inr ⟨⟨el,ht⟩,.inl ⟨n,sz,xs,rfl,rfl⟩⟩))
    ·rename_i b q n _ hv
     obtain rfl:=zx hs
     exact yc m e (Sh e.bT ho dx dG dU hx hv (.inr ⟨⟨el,ht⟩,.inr ⟨b,q,rfl⟩⟩))
    ·rename_i b bu n _ hv
     obtain rfl:=zx hs
     exact yc m e (jgx e.bT ho dx dG dU hx hv ht)
    ·cases hs
   ·cases hc
  ·cases hc
 ·rename_i dx
  split at hc
  ·rename_i x t dG dU
   split at hc
   ·rename_i el ht
    obtain⟨x',hx,rfl⟩:=E6.1 hc
    simp only[za,zi]at hs
    split at hs<;>first|(exfalso;omega)|skip
    ·rename_i sz xs _ hv
     obtain rfl:=zx hs
     refine yc m e ?_
     have ha:c.args=#[x]:=by apply Sd;simpa using dG
     have jK:c.argTypes=#[t]:=by apply Sd;simpa using dU
     refine⟨.int .i64 0,?_,.int _ _⟩
     have hq:∃b,a.eval x=.slice b 0 0:=by
      rcases(zu e.bT hx hv).cG with⟨_,_,h⟩|⟨h,_⟩|⟨h,_⟩
      ·exact⟨_,h⟩
      ·cases h
      ·cases h
     obtain⟨b,hq⟩:=hq
     simp[execOp,ho,resolve,dx,ha,jK,invoke,builtin,Builtin.cap_,run_underlying ht,hq,goInt]
    ·cases hs
   ·cases hc
  ·cases hc
 ·rename_i dx
  split at hc
  ·rename_i x y t u dG dU
   split at hc
   ·rename_i el ut ht hu
    split at hc
    ·rename_i iL
     split at hc
     ·rename_i sz b x' y' hn hb h1 h2
      cases hc
      have hzero:∃z,ef P el=I z∧z.length=sz:=by
       have hz:=(En _ _▸iL).2
       rw[hn]at hz
       cases wN:ef P el with
       |none=>simp[wN]at hz
       |some z=>exact⟨z,rfl,by simpa[wN]using hz⟩
      generalize (dst.map (h.vec.contains ·)).getD G2=bb at hs
      cases bb with
      |true=>
       simp only[if_true,za,zm]at hs
       split at hs
       ·rename_i SJ vy e1 e2
        split at hs
        ·rename_i ys cy
         cases hk:(Ha ys.length 1073741824&&Ha b 4096&&Mm 0 sz&&!ys.isEmpty&&zw 0 ys&&Mm r 1000)with
         |false=>rw[hk]at hs;cases hs
         |true=>
          rw[hk]at hs
          simp only[cT]at hs
          split at hs
          ·rename_i h' cW
           obtain rfl:=zx hs
           simp only[En]at hk iL
           obtain⟨⟨⟨⟨⟨k1,k2⟩,k3⟩,k4⟩,k5⟩,_⟩:=hk
           exact .inl (jjb m e ho dx dG dU ht hu iL.1 hn hb h1 h2 e1 e2 cy (E3 k1) (by intro h;rw[h]at k4;cases k4) (E3 k2) k5 hzero cW)
          ·cases hs
        ·cases hs
       ·rename_i bx bu len vy e1 e2
        split at hs
        ·rename_i cJ db xs fZ
         split at hs
         ·rename_i ys cy
          cases hk:(Gn bu db&&Gn sz cJ&&Ha len xs.length&&Ha (len+ys.length) 1073741824&&Ha b 4096&&Mm 0 sz&&zw 0 ys&&Mm r 1000)with
          |false=>rw[hk]at hs;cases hs
          |true=>
           rw[hk]at hs
           simp only[cT]at hs
           split at hs
           ·rename_i h' bm
            obtain rfl:=zx hs
            simp only[En]at hk iL
            obtain⟨⟨⟨⟨⟨⟨⟨k1,k2⟩,k3⟩,k4⟩,k5⟩,k6⟩,k7⟩,_⟩:=hk
            obtain rfl:=E2 k1
            obtain rfl:=E2 k2
            exact .inl (jfi m e ho dx dG dU ht hu iL.1 hn hb h1 h2 e1 e2 cy fZ (E3 k3) (E3 k4) (E3 k5) k7 hzero bm)
           ·cases hs
         ·cases hs
        ·cases hs
       ·cases hs
      |false=>
      simp only[Gl,if_false]at hs
      generalize hR:(if(Tk (fun x=>h.bA.contains x) dst).getD G2=Gk then I r else Gm)=R at hs
      cases R with
      |some rr=>
       simp only[za,zm]at hs
       split at hs
       ·rename_i cJ vy e1 e2
        cases fW:((kg env x').isSome&&Gn sz cJ)with
        |false=>simp[fW]at hs
        |true=>
         simp only[fW,cT]at hs
         split at hs
         ·rename_i ys cy
          cases cV:(Ha ys.length 1073741824&&Ha b 4096&&Mm 0 sz)with
          |false=>simp[cV]at hs
          |true=>
           simp only[cV,cT]at hs
           split at hs
           ·rename_i h' cW
            cases hs
            simp only[En]at cV iL fW
            obtain⟨⟨k2,k3⟩,k4⟩:=cV
            refine .inl (q07 m e ho dx dG dU ht hu iL.1 hn hb h1 h2 e1 e2 cy fW.1 rfl (E3 k2) (E3 k3) ?_ (E2 fW.2) cW)
            have hz:=iL.2
            rw[hn]at hz
            cases wN:ef P el with
            |none=>simp[wN]at hz
            |some z=>exact⟨z,rfl,by simpa[wN]using hz⟩
           ·cases hs
         ·cases hs
       ·cases hs
      |none=>
       simp only[za,zi]at hs
       split at hs
       ·rename_i n cJ xs vy e1 e2
        cases fW:(n||(kg env x').isSome)with
        |false=>simp[fW]at hs
        |true=>
         simp only[fW,cT]at hs
         split at hs
         ·rename_i ys cy
          cases cV:((Gn sz cJ||(xs.isEmpty&&n))&&Ha (xs.length+ys.length) 1073741824&&Ha b 4096&&Mm 0 sz)with
          |false=>simp[cV]at hs
          |true=>
           simp only[cV,cT]at hs
           cases hs
           simp only[En]at cV iL
           obtain⟨⟨⟨k1,k2⟩,k3⟩,k4⟩:=cV
           refine .inl (q8w m e ho dx dG dU ht hu iL.1 hn hb h1 h2 e1 e2 cy (by simpa using fW) ?_ (E3 k2) (E3 k3) ?_)
           ·rcases Nh _ _▸k1 with k1|k1
            ·exact .inl (E2 k1)
            ·simp only[En,N3]at k1;exact .inr k1
           ·have hz:=iL.2
            rw[hn]at hz
            cases wN:ef P el with
            |none=>simp[wN]at hz
            |some z=>exact⟨z,rfl,by simpa[wN]using hz⟩
         ·cases hs
       ·cases hs
     ·cases hc
    ·cases hc
   ·cases hc
  ·cases hc
 ·rename_i dx
  split at hc
  ·rename_i x y t ts dG dU
   split at hc
   ·rename_i el ht
    split at hc
    ·rename_i sz x' y' hn h1 h2
     cases hc
     simp only[za,zm]at hs
     split at hs
     ·rename_i b q len vy e1 e2
      cases hk:yv h0 al b with
      |false=>simp[hk]at hs
      |true=>
       simp only[hk,cT]at hs
       split at hs
       ·rename_i cs hcs
        split at hs
        ·rename_i n us cy
         split at hs
         ·rename_i dQ bS
          cases cV:Gn us.length (n*sz)with
          |false=>simp[cV]at hs
          |true=>
           simp only[cV,cT]at hs
           split at hs
           ·rename_i h' bm
            obtain rfl:=zx hs
            exact .inl (jeq m e ho dx dG dU ht hn h1 h2 e1 e2 hcs cy bS (E2 cV) bm)
           ·cases hs
         ·cases hs
        ·cases hs
       ·cases hs
     ·cases hs
    ·cases hc
   ·cases hc
  ·cases hc
 ·rename_i dx
  split at hc
  ·rename_i x y t ts dG dU
   split at hc
   ·rename_i kt el ht
    split at hc
    ·rename_i kd x' y' gY h1 h2
     cases hc
     simp only[za,zm]at hs
     split at hs
     ·rename_i b kv e1 e2
      cases hk:yv h0 al b with
      |false=>simp[hk]at hs
      |true=>
       simp only[hk,cT]at hs
       split at hs
       ·rename_i es hb
        split at hs
        ·rename_i r hf
         split at hs
         ·rename_i h' bm
          obtain rfl:=zx hs
          exact .inl (q9w m e ho dx dG dU ht gY h1 h2 e1 e2 hb hf bm)
         ·cases hs
        ·cases hs
       ·cases hs
     ·cases hs
    ·cases hc
   ·cases hc
  ·cases hc
 ·rename_i dx
  obtain⟨l,hl,rfl⟩:=E6.1 hc
  simp only[za,zi]at hs
  split at hs
  ·rename_i v vs hv
   obtain⟨z,hz,rfl⟩:=ug hs
   exact yc m e (jcc (mx:=true) e.bT ho dx hl hv hz)
  ·cases hs
 ·rename_i dx
  obtain⟨l,hl,rfl⟩:=E6.1 hc
  simp only[za,zi]at hs
  split at hs
  ·rename_i v vs hv
   obtain⟨z,hz,rfl⟩:=ug hs
   exact yc m e (jcc (mx:=false) e.bT ho dx hl hv hz)
  ·cases hs
 ·cases hc
end
def ay.cut (C:ay)(n:Nat):ay:={ C with β:=fun b=>if b<n then C.β b else Gm }
theorem ay.ew (C:ay)(n:Nat):(C.cut n).le C where
 k _ _ _ h:=h
 b b r h:=by
  simp only[ay.cut]at h
  split at h
  ·exact h
  ·cases h
 w:=rfl
 d _ h:=h
theorem ay.ie {C C':ay}{n:Nat}(h:C.le C')(hn:∀b r,C.β b=I r→b<n):C.le (C'.cut n):=
 ⟨h.1,fun b r hb=>by simp only[ay.cut];rw[if_pos (hn b r hb)];exact h.2 b r hb,h.w,h.d,h.t⟩
section
variable {P:Program}{p:qt}{xc:XC}{C C0:ay}{ω:Nat→Option Loc}{w w0:World}{hp:j8}{env:Env}{tmps:Array Value}{B:Nat}
theorem aF.cut {ℓ:Loc}{x:qa}{v:Value}(n:Nat)(ho:aF C ω w B ℓ x v):aF (C.cut n) ω w B ℓ x v:=by
 unfold aF at *
 split at ho
 ·obtain⟨h1,h2,h3,h4,h5⟩:=ho
  exact⟨h1,h2,fun b hb=>h3 b ((ay.ew C n).2 b _ hb),h4,h5⟩
 ·obtain⟨h1,h2,h3,h4,h5⟩:=ho
  exact⟨h1,h2,fun b hb=>h3 b ((ay.ew C n).2 b _ hb),h4,h5⟩
 ·trivial
theorem bD.cut {x:qa}{v:Value}{n:Nat}(h:bD C x v)(hb:below n x=Gk):bD (C.cut n) x v:=
 qp.shift (C:=C) (C':=C.cut n) n (fun _ _ _ h=>h) (fun b r aX hb=>by simp only[ay.cut];rw[if_pos aX];exact hb) h hb
theorem SS {n:Nat}:∀ {e:Env} {s:Nat} {x:qa×Bool},l6 n e=Gk→yd s e=I x→below n x.1=Gk
 | [],_,_,_,h=>by simp[yd]at h
 |(t,y)::e,s,x,hb,h=>by
  simp only[l6,En]at hb
  simp only[yd]at h
  cases lg:Gn t s with
  |true=>simp only[lg,cT,I.injEq]at h;subst h;exact hb.1
  |false=>simp only[lg,cond_false]at h;exact SS hb.2 h
theorem qpu {n:Nat}:∀ {l:j8} {b:Nat} {x:qn},kh n l=Gk→l[b]?=I x→oG n x=Gk
 | [],_,_,_,h=>by simp at h
 |y::l,b,x,hb,h=>by
  simp only[kh,En]at hb
  cases b with
  |zero=>simp at h;subst h;exact hb.1
  |succ b=>simp at h;exact qpu hb.2 h
theorem qm9 {n:Nat}:∀ {l:List (qa×Bool)} {j:Nat} {c:qa×Bool},oF n l=Gk→l[j]?=I c→below n c.1=Gk
 | [],_,_,_,h=>by simp at h
 |(y,o)::l,j,c,hb,h=>by
  simp only[oF,En]at hb
  cases j with
  |zero=>simp at h;subst h;exact hb.1
  |succ j=>simp at h;exact qm9 hb.2 h
theorem qz.cut {n:Nat}{es:List (qa×qa)}{ms:List MapEntry}(hr:qz C es ms):tQ n es=Gk→qz (C.cut n) es ms:=by
 induction hr with
 |nil=>exact fun _=>.nil
 |cons k v es m ms hk hv _ ih=>
  intro hb
  simp only[tQ,En]at hb
  exact .cons k v es m ms (bD.cut hk hb.1.1) (bD.cut hv hb.1.2) (ih hb.2)
theorem bn.cut {b r n:Nat}{x:qn}(h:bn P C ω w B b r x)(hb:oG n x=Gk):bn P (C.cut n) ω w B b r x:=by
 cases x with
 |hole=>exact h
 |cells cs=>
  obtain⟨vs,el,h1,h2,h3⟩:=h
  exact⟨vs,el,h1,h2,fun j c hc=>let ⟨v,a,q,b,d⟩:=h3 j c hc; ⟨v,a,q,bD.cut b (qm9 hb hc),fun e=>(d e).cut n⟩⟩
 |map es=>obtain⟨bP,clock,h1,h2⟩:=h;exact⟨bP,clock,h1,h2.cut hb⟩
 |iter s pos=>exact h
 |loop l=>obtain⟨lp,h1,h2⟩:=h;exact⟨lp,h1,{ h2 with env:=fun s x hx=>let ⟨v,a,b⟩:=h2.env s x hx; ⟨v,a,bD.cut b (SS hb hx)⟩ }⟩
 |fB t e l=>obtain⟨p,v,h1,h2,h3,h4⟩:=h;exact⟨p,v,h1,h2,h3,h4.cut n⟩
 |dead=>exact h
 |vec sz bu xs=>exact dC.imp (C:=C) (C':=C.cut n) (ω:=ω) (ω':=ω) (B':=B) (fun _ _ _ h=>h) (fun _ h=>h) (fun _ h _=>h) rfl (fun q n' cap k=>⟨rfl,aF.cut (C:=C) n k⟩) h
theorem av.gc (m:av P C ω w0 C0 hp w){n:Nat}(hn:n≤hp.length)(hb:kh n (hp.take n)=Gk)(h0:∀b r,C0.β b=I r→b<n):av P (C.cut n) ω w0 C0 (hp.take n) w where
 base:=m.base
 know:=m.know
 cQ:=m.cQ
 apart b r o hb:=m.apart b r o ((ay.ew C n).2 b r hb)
 inj b b' r h1 h2:=m.inj b b' r ((ay.ew C n).2 _ _ h1) ((ay.ew C n).2 _ _ h2)
 lt b r h:=by
  have h1:=m.lt b r ((ay.ew C n).2 _ _ h)
  refine⟨h1.1,?_⟩
  simp only[ay.cut]at h
  split at h
  ·rw[Md];omega
  ·cases h
 size:=m.size
 frame:=m.frame
 eK:=m.eK
 os:=m.os
 output:=m.output
 fresh b r h:=m.fresh b r ((ay.ew C n).2 _ _ h)
 grown:=ay.ie m.grown h0
 old:=m.old
 box b x r hx hr:=by
  have aX:b<n:=by
   have:=(Hb.1 hx).1
   rw[Md]at this;omega
  have fg:hp[b]?=I x:=by rwa [List.getElem?_take_of_lt aX]at hx
  exact(m.box b x r fg ((ay.ew C n).2 _ _ hr)).cut (qpu hb hx)
 gV:=m.gV
theorem aj.cut {n:Nat}(e:aj C ω w B env tmps)(hb:l6 n env=Gk):aj (C.cut n) ω w B env tmps:=
 fun s x hx=>let ⟨v,h1,h2,h3⟩:=e s x hx; ⟨v,h1,bD.cut h2 (SS hb hx),fun h=>(h3 h).cut n⟩
def j1e (env:Env)(hp:j8)(r:ja)(ℓ:Loc)(x:qa×Bool):Prop:=
 (∃s,ℓ=.slot s)∨∃t n b j ow cs,r=.cell t G2 n∧yd t env=I (.ptr b j,ow)∧ℓ=.cell b j∧yl hp b=I cs∧cs[j]?=I x
def SU (C:ay)(ω:Nat→Option Loc)(w:World)(B:Nat)(env:Env)(hp:j8)(r:ja)(x:qa×Bool)(v:Value):Prop:=bD C x.1 v∧(x.2=Gk→∃ℓ,aF C ω w B ℓ x.1 v∧j1e env hp r ℓ x)
theorem q2i {B':Nat}(m:av P C ω w0 C0 hp w)(hB:B'=w0.heap.size)(e:aj C ω w B' env tmps){rv:ResultVar}{r:ja}{x:qa×Bool}(hc:L7 P rv=I r)(hr:tT ⟨env,hp⟩ r=I x):
  ∃v,((match rv with | .tmp t=>pure (tmps.getD t undef) | .cell a t=>do loadVar t (←asAddr (tmps.getD a undef)):Sem Value)).run P w=.ok v w∧SU C ω w B' env hp r x v:=by
 subst hB
 cases rv with
 |tmp t=>
  simp only[L7]at hc
  cases hc
  simp only[tT]at hr
  obtain⟨v,h1,h2,h3⟩:=e t x hr
  refine⟨v,?_,h2,fun h=>⟨_,h3 h,.inl ⟨_,rfl⟩⟩⟩
  simp[N1,h1]
 |cell t ty=>
  simp only[L7]at hc
  have key:∀ {ag:Bool} {n:Nat},fb P ty=I ag→yg P ty=I n→(ag=G2→n=1)→tT ⟨env,hp⟩ (.cell t ag n)=I x→∃v,((do loadVar ty (←asAddr (tmps.getD t undef)):Sem Value)).run P w=.ok v w∧SU C ω w w0.heap.size env hp (.cell t ag n) x v:=by
   intro ag n hg hn EX hr
   simp only[tT]at hr
   split at hr
   ·rename_i b q ow hl
    obtain⟨u,h1,h2,_⟩:=e t _ hl
    obtain⟨r,gX,rfl⟩:=h2.cU
    have hu:tmps.getD t undef=.pointer (I ⟨r,q,Gm⟩):=by simp[N1,h1]
    split at hr
    ·rename_i cs hcs
     have fY:=m.box b _ r (vf hcs) gX
     split at hr
     ·rename_i us gy
      cases ag with
      |true=>
       simp only[cT,I.injEq]at hr
       subst hr
       obtain⟨vs,k1,_,k2,k3,_⟩:=fY.read gy
       refine⟨.agg ⟨vs⟩,?_,.agg _ _ k1,by simp⟩
       simp[hu,asAddr,EV hg hn k2 k3]
      |false=>
       simp only[cond_false]at hr
       split at hr
       ·rename_i c hc
        cases hr
        obtain⟨vs,te,g1,g2,g3⟩:=fY
        obtain⟨v,a1,a2,a3,a4⟩:=g3 q _ hc
        have dB:w.cell? ⟨r,q,Gm⟩=I v:=by
         simp only[World.cell?,g1]
         simpa using a1
        refine⟨v,?_,a3,fun h=>⟨_,a4 h,.inr ⟨_,_,_,_,_,_,rfl,hl,rfl,hcs,hc⟩⟩⟩
        simp[hu,asAddr,EW hg dB]
       ·cases hr
     ·cases hr
    ·cases hr
   ·cases hr
  split at hc
  ·rename_i n hg hn;cases hc;exact key hg hn (by simp) hr
  ·rename_i hg hn;cases hc;exact key hg hn (fun _=>rfl) hr
  ·cases hc
inductive jn (P:Program)(C:ay)(ω:Nat→Option Loc)(w:World)(B:Nat)(env:Env)(hp:j8):List ja→List (qa×Bool)→List Value→Prop where
 |nil:jn P C ω w B env hp [] [] []
 |cons {r:ja} {x:qa×Bool} {v:Value} {rs:List ja} {xs:List (qa×Bool)} {vs:List Value} (h:SU C ω w B env hp r x v) (t:jn P C ω w B env hp rs xs vs):jn P C ω w B env hp (r::rs) (x::xs) (v::vs)
theorem jn.bT {rs:List ja}{xs:List (qa×Bool)}{vs:List Value}(h:jn P C ω w B env hp rs xs vs):aM C (xs.map (·.1)) vs:=by
 induction h with
 |nil=>exact .nil
 |cons h _ ih=>exact .cons _ _ _ _ h.1 ih
theorem qpv {B':Nat}(m:av P C ω w0 C0 hp w)(hB:B'=w0.heap.size)(e:aj C ω w B' env tmps):∀ {l:List ResultVar} {rs:List ja} {xs:List (qa×Bool)},yQ P l=I rs→kW ⟨env,hp⟩ rs=I xs →
  ∃vs,(l.mapM fun(rv:ResultVar)=>(match rv with | .tmp t=>pure (tmps.getD t undef) | .cell a t=>do loadVar t (←asAddr (tmps.getD a undef)):Sem Value)).run P w=.ok vs w∧jn P C ω w B' env hp rs xs vs
 | [],rs,xs,hc,hr=>by
  simp[yQ]at hc;subst hc
  simp[kW]at hr;subst hr
  exact⟨[],rfl,.nil⟩
 |rv::l,rs,xs,hc,hr=>by
  simp only[yQ]at hc
  split at hc
  ·rename_i r C4 h1 h2
   cases hc
   simp only[kW]at hr
   split at hr
   ·rename_i x hx
    split at hr
    ·rename_i ys mf
     cases hr
     obtain⟨v,k1,k2⟩:=q2i m hB e h1 hx
     obtain⟨vs,j1,j2⟩:=qpv m hB e h2 mf
     refine⟨v::vs,?_,.cons k2 j2⟩
     simp only[List.mapM_cons,Sem.run_bind,k1,Result.andThen_ok,j1,Sem.run_pure]
    ·cases hr
   ·cases hr
  ·cases hc
def De:List Value→Value
 | [v]=>v
 |vs=>.tuple ⟨vs⟩
theorem qwu (m:av P C ω w0 C0 hp w){ω':Nat→Option Loc}{b j:Nat}{v:qa}{ow:Bool}{cs:List (qa×Bool)}(kI:yl hp b=I cs)(hc:cs[j]?=I (v,ow))(hω:∀b' j' y u,(b'≠b∨j'≠j)→aF C ω w w0.heap.size (.cell b' j') y u→aF C ω' w w0.heap.size (.cell b' j') y u):
  av P C ω' w0 C0 (hp.set b (.cells (cs.set j (v,G2)))) w:=by
 by_cases hb:∃r,C.β b=I r
 ·obtain⟨r,hr⟩:=hb
  obtain⟨vs,te,hg,cD,hold⟩:=m.box b _ r (vf kI) hr
  obtain⟨cv,k1,k2,k3,k4⟩:=hold j _ hc
  have hu:jk w w r:=⟨rfl,fun _ _=>rfl,fun c t fr h=>by rw[hg]at h;cases h;rfl,rfl,rfl⟩
  refine m.du hu hr _ (fun b' j' y u eT hz=>hω b' j' y u (.inl eT) hz) ⟨vs,te,hg,by simpa using cD,fun i c hi=>?_⟩
  rw[List.getElem?_set]at hi
  split at hi
  ·rename_i wO
   subst wO
   split at hi
   ·cases hi;exact⟨cv,k1,k2,k3,by simp⟩
   ·cases hi
  ·rename_i wO
   obtain⟨u,a1,a2,a3,a4⟩:=hold i c hi
   exact⟨u,a1,a2,a3,fun h=>hω b i _ _ (.inr (Ne.symm wO)) (a4 h)⟩
 ·refine { m with lt:=fun k r hk=>by rw[N4];exact m.lt k r hk,box:=fun k x r hx hk=>?_ }
  have lh:k≠b:=fun h=>hb ⟨r,h▸hk⟩
  rw[Mr (Ne.symm lh)]at hx
  exact(m.box k x r hx hk).mono (ay.le_refl C) fun j' y u ho=>hω k j' y u (.inl lh) ho
theorem jh1 (m:av P C ω w0 C0 hp w){rs:List ja}{xs:List (qa×Bool)}{vs:List Value}(h:jn P C ω w w0.heap.size env hp rs xs vs):
  ∃ω',av P C ω' w0 C0 (kF ⟨env,hp⟩ rs) w∧bD C (yr xs).1 (De vs)∧((yr xs).2=Gk→aF C ω' w w0.heap.size (.slot 0) (yr xs).1 (De vs)):=by
 have same:∃ω',av P C ω' w0 C0 hp w:=⟨ω,m⟩
 cases h with
 |nil=>exact⟨ω,m,by simpa[yr,De]using qp.aC _ _ (qp.nil),by simp[yr]⟩
 |cons hx ht=>
  cases ht with
  |cons hy ht=>
   have:=(jn.cons hx (jn.cons hy ht)).bT
   exact⟨ω,by simpa[kF]using m,by simpa[yr,De]using qp.aC _ _ this,by simp[yr]⟩
  |nil=>
   rename_i r x v
   obtain⟨h1,h2⟩:=hx
   simp only[yr]
   -- without the flag
   have plain:av P C ω w0 C0 (kF ⟨env,hp⟩ [r]) w:=by
    unfold kF
    split
    ·split
     ·split
      ·rename_i cs hcs
       split
       ·rename_i u hu
        exact qwu m hcs hu (fun _ _ _ _ _ h=>h)
       ·exact m
      ·exact m
     ·exact m
    ·exact m
   by_cases hk:x.2=Gk
   ·have fW:=hk
    obtain⟨ℓ,h3,h4⟩:=h2 fW
    refine⟨uc ω x.1 v (.slot 0),?_,h1,fun _=>Mp h3⟩
    rcases h4 with⟨s,rfl⟩|⟨t,n,b,j,ow,cs,rfl,g1,rfl,g2,g3⟩
    ·exact { plain with box:=fun b x r hx hb=>(plain.box b x r hx hb).mono (ay.le_refl C) fun j y u hz=>wJ h3 (by simp) hz }
    ·obtain⟨xv,xo⟩:=x
     simp only at fW
     subst fW
     have:kF ⟨env,hp⟩ [.cell t G2 n]=hp.set b (.cells (cs.set j (xv,G2))):=by
      simp only[kF,g1,g2,g3]
     rw[this]
     exact qwu m g2 g3 fun b' j' y u bw hz=>wJ h3 (by
      rcases bw with bw|bw
      ·simp[bw]
      ·simp[bw]) hz
   ·exact⟨ω,plain,h1,fun h=>absurd h hk⟩
theorem q5n {fn:Func}(m:av P C ω w0 C0 hp w)(e:aj C ω w w0.heap.size env tmps){rs:List ja}{xs:List (qa×Bool)}(hc:yQ P fn.results.toList=I rs)(hr:kW ⟨env,hp⟩ rs=I xs):
  ∃v ω',(results fn tmps).run P w=.ok v w∧av P C ω' w0 C0 (kF ⟨env,hp⟩ rs) w∧bD C (yr xs).1 v∧((yr xs).2=Gk→aF C ω' w w0.heap.size (.slot 0) (yr xs).1 v):=by
 obtain⟨vs,h1,h2⟩:=qpv m rfl e hc hr
 have la:(fn.results.mapM fun(rv:ResultVar)=>(match rv with | .tmp t=>pure (tmps.getD t undef) | .cell a t=>do loadVar t (←asAddr (tmps.getD a undef)):Sem Value)).run P w=.ok vs.toArray w:=by
  rw[Array.mapM_eq_mapM_toList]
  simp only[Sem.run_map]
  rw[h1]
  rfl
 have bp:(results fn tmps).run P w=.ok (if h:vs.toArray.size=1 then vs.toArray[0]else .tuple vs.toArray) w:=by
  unfold results
  rw[Sem.run_bind]
  exact congrArg (fun z=>Result.andThen z fun(a:Array Value) w'=>Sem.run P (pure (if h:a.size=1 then a[0]else Value.tuple a)) w') la
 have hval:(if h:vs.toArray.size=1 then vs.toArray[0]else .tuple vs.toArray)=(De vs):=by
  match vs with
  | []=>rfl
  | [v]=>rfl
  |v::u::vs=>simp[De]
 rw[hval]at bp
 obtain⟨ω',q1,q2,q3⟩:=jh1 m h2
 exact⟨_,ω',bp,q1,q2,q3⟩
end
section
variable {P:Program}{C C0:ay}{ω:Nat→Option Loc}{w w0:World}{hp:j8}
def pQ (C:ay)(hp:j8)(r:Nat):Prop:=∃b sz bu xs r0 cap,hp[b]?=I (.vec sz bu xs)∧C.β b=I r0∧C.T (r0,bu,r,cap)
def Hid (C:ay)(hp:j8)(r:Nat):Prop:=(∃b,C.β b=I r)∨pQ C hp r
theorem pQ.is (m:av P C ω w0 C0 hp w){r:Nat}(h:pQ C hp r):(∃b,C.β b=I r)∨∃b sz bu xs n cap,hp[b]?=I (.vec sz bu xs)∧wE C ω w w0.heap.size b r n cap:=by
 obtain⟨b,sz,bu,xs,r0,cap,h1,h2,h3⟩:=h
 obtain⟨q,jN,k1,k2,k3,k4,_⟩:=m.box b _ r0 h1 h2
 have:=(k2 _ h3 rfl).2 rfl
 simp only[Prod.mk.injEq]at this
 obtain⟨rfl,rfl⟩:=this
 rcases k4 with rfl|k4
 ·exact .inl ⟨b,h2⟩
 ·exact .inr ⟨b,sz,bu,xs,_,_,h1,k4⟩
theorem SV (m:av P C ω w0 C0 hp w){r:Nat}(h:Hid C hp r)(o:Nat):C.K r o=Gm:=by
 rcases h with⟨b,hb⟩|h
 ·exact m.apart b r o hb
 ·rcases h.is m with⟨b,hb⟩|⟨b,sz,bu,xs,n,cap,_,h2⟩
  ·exact m.apart b r o hb
  ·exact h2.2.2.2.2.2.2 o (by simp)
theorem jbd {K:Nat→Nat→Option Value}(hW:C.W=fun _=>False)(m:av P C ω w0 (.bK K) hp w){r:Nat}(h:Hid C hp r):w0.heap.size≤r:=by
 have key:∀b,C.β b=I r→w0.heap.size≤r:=fun b hb=>by
  rcases m.fresh b r hb with h|h|h
  ·cases h
  ·exact h
  ·exact h.elim
 rcases h with⟨b,hb⟩|h
 ·exact key b hb
 ·rcases h.is m with⟨b,hb⟩|⟨b,sz,bu,xs,n,cap,_,h2⟩
  ·exact key b hb
  ·rcases h2.2.1 with h|h
   ·exact h
   ·rw[hW]at h;exact h.elim
theorem jqm (m:av P C ω w0 C0 hp w){r:Nat}(h:Hid C hp r):r<w.heap.size:=by
 rcases h with⟨b,hb⟩|h
 ·exact(m.lt b r hb).1
 ·rcases h.is m with⟨b,hb⟩|⟨b,sz,bu,xs,n,cap,_,h2⟩
  ·exact(m.lt b r hb).1
  ·obtain⟨_,_,_,_,_,⟨cells,elem,h5,_⟩,_⟩:=h2
   exact(E4.1 h5).1
open Classical in
noncomputable def ki (C:ay)(hp:j8)(w:World):Nat→Nat→Option Value:=fun r o=>if Hid C hp r then(w.cell? ⟨r,o,Gm⟩).filter (·.oneCell')else C.K r o
theorem Fi (m:av P C ω w0 C0 hp w){r o:Nat}{x:Value}(h:C.K r o=I x):ki C hp w r o=I x:=by
 unfold ki
 rw[if_neg]
 ·exact h
 ·intro hh
  rw[SV m hh o]at h;cases h
theorem Mu (m:av P C ω w0 C0 hp w){r o:Nat}{x:Value}(h:ki C hp w r o=I x):w.cell? ⟨r,o,Gm⟩=I x∧x.oneCell'=Gk:=by
 unfold ki at h
 split at h
 ·rw[Option.filter_eq_some_iff]at h;exact h
 ·exact⟨m.know r o x h,m.cQ r o x h⟩
theorem qty {r o:Nat}{x:Value}(hb:Hid C hp r)(hc:w.cell? ⟨r,o,Gm⟩=I x)(h1:x.oneCell'=Gk):ki C hp w r o=I x:=by
 unfold ki
 rw[if_pos hb,hc]
 simp[h1]
theorem SW {b r o:Nat}{x:Value}(hb:C.β b=I r)(hc:w.cell? ⟨r,o,Gm⟩=I x)(h1:x.oneCell'=Gk):ki C hp w r o=I x:=
 qty (.inl ⟨b,hb⟩) hc h1
theorem SX (m:av P C ω w0 C0 hp w){x:qa}{v:Value}(h:bD C x v)(hb:below 0 x=Gk):bD (.bK (ki C hp w)) x v:=
 qp.shift (C:=C) (C':=.bK (ki C hp w)) 0 (fun _ _ _ h=>Fi m h) (fun b r aX=>by omega) h hb
theorem qt4 {x:qa}{v:Value}(h:bD C x v)(h1:v.oneCell'=Gk):x.isAgg=G2:=by
 cases h<;>first|rfl|(simp[Value.oneCell']at h1)
theorem SY {C:ay}{r:Nat}:∀ {ys:List qa} {o:Nat},(∀j x,ys[j]?=I x→∃v,C.K r (o+j)=I v∧bD C x v)→bY C r ys o
 | [],o,_=>.gI _ _
 |x::ys,o,h=>by
  obtain⟨v,h1,h2⟩:=h 0 x rfl
  refine .dc _ _ _ _ v (by simpa using h1) h2 (SY fun j y hy=>?_)
  obtain⟨v,k1,k2⟩:=h (j+1) y (by simpa using hy)
  exact⟨v,by rw[show o+1+j=o+(j+1) by omega];exact k1,k2⟩
theorem SZ {C:ay}{r sz:Nat}(hz:0<sz):∀ {n:Nat} {xs:List qa} {o:Nat},xs.length=n*sz→(∀x∈xs,x.isAgg=G2)→(∀j x,xs[j]?=I x→∃v,C.K r (o+j)=I v∧bD C x v)→aY C r sz (lN sz n xs) o
 |0,xs,o,_,_,_=>.fe _ _ _
 |n+1,xs,o,hl,hp,h=>by
  rw[Nat.succ_mul]at hl
  have hf:(bif Gn sz 1 then xs.headD .undef else qa.agg (xs.take sz)).flat=xs.take sz:=by
   cases hb:Gn sz 1 with
   |false=>rfl
   |true=>
    have:=E2 hb
    subst this
    match xs,hl with
    |x::xs,_=>simp only[cT,List.headD_cons];rw[qcf (hp x (List.mem_cons_self ..))];rfl
  refine .cY _ _ _ _ _ ?_ ?_ (SZ hz ?_ (fun x hx=>hp x (List.mem_of_mem_drop hx)) fun j x hx=>?_)
  ·rw[hf,Md];omega
  ·rw[hf]
   refine SY fun j x hx=>h j x ?_
   rw[List.getElem?_take]at hx
   split at hx
   ·exact hx
   ·cases hx
  ·rw[Sp];omega
  ·rw[List.getElem?_drop]at hx
   obtain⟨v,k1,k2⟩:=h _ x hx
   exact⟨v,by rw[Nat.add_assoc];exact k1,k2⟩
theorem Fj {sz:Nat}:∀ {n:Nat} {xs:List qa},(lN sz n xs).length=n
 |0,_=>rfl
 |n+1,xs=>by simp only[lN,List.length_cons];rw[Fj]
theorem qso {sz:Nat}(hz:1<sz):∀ {n:Nat} {xs:List qa},xs.length=n*sz→zw 0 (lN sz n xs)=Gk→∀x∈xs,below 0 x=Gk
 |0,xs,hl,_=>by
  rw[Nat.zero_mul]at hl
  rw[List.length_eq_zero_iff.1 hl]
  intro x hx;cases hx
 |n+1,xs,hl,h=>by
  have hb:Gn sz 1=G2:=by
   cases hc:Gn sz 1 with
   |false=>rfl
   |true=>have:=E2 hc;omega
  simp only[lN,hb,cond_false,zw,below,En]at h
  have ih:=qso hz (n:=n) (xs:=xs.drop sz) (by rw[Sp,hl,Nat.succ_mul];omega) h.2
  have ht:∀(ys:List qa),zw 0 ys=Gk→∀x∈ys,below 0 x=Gk:=by
   intro ys
   induction ys with
   |nil=>intro _ x hx;cases hx
   |cons y ys ih=>
    intro hh x hx
    simp only[zw,En]at hh
    rcases Sx.1 hx with rfl|hx
    ·exact hh.1
    ·exact ih hh.2 x hx
  intro x hx
  rw[←List.take_append_drop sz xs]at hx
  rcases List.mem_append.1 hx with hx|hx
  ·exact ht _ h.1 x hx
  ·exact ih x hx
theorem S0 (m:av P C ω w0 C0 hp w){x x':qa}{v:Value}(hf:fT hp x=I x')(h:bD C x v)(hb:below 0 x'=Gk):bD (.bK (ki C hp w)) x' v:=by
 unfold fT at hf
 split at hf
 ·rename_i b off len
  split at hf
  ·rename_i cs hcs
   cases cL:CU off len cs with
   |true=>
    rw[cL]at hf
    simp only[cT,I.injEq]at hf
    subst hf
    simp only[CU,En]at cL
    obtain⟨⟨⟨r0,r1⟩,r2⟩,_⟩:=cL
    have r0:=E2 r0
    have r2:=E2 r2
    have r1:1<cs.length / len:=by simpa using r1
    subst r0
    obtain⟨r,cap,gX,hle,rfl⟩:=h.eo
    obtain⟨vs,elem,k1,k2,k3⟩:=m.box b _ r (vf hcs) gX
    have iK:zw 0 (lN (cs.length / len) len (cs.map (·.1)))=Gk:=by simpa[below]using hb
    have S1:=qso r1 (by rw[R6];exact r2.symm) iK
    have hrr:aY (.bK (ki C hp w)) r (cs.length / len) (lN (cs.length / len) len (cs.map (·.1))) 0:=by
     refine SZ (by omega) (by rw[R6];exact r2.symm) (fun x hx=>?_) fun j x hx=>?_
     ·obtain⟨j,hj⟩:=List.getElem?_of_mem hx
      rw[Mn,E6]at hj
      obtain⟨c,hc,rfl⟩:=hj
      obtain⟨u,q1,q2,q3,_⟩:=k3 j c hc
      exact qt4 q3 q2
     ·have cR:=Gq hx
      rw[Mn,E6]at hx
      obtain⟨c,hc,rfl⟩:=hx
      obtain⟨u,q1,q2,q3,_⟩:=k3 j c hc
      have dB:w.cell? ⟨r,0+j,Gm⟩=I u:=by
       unfold World.cell?
       rw[k1]
       simp only[Hd,Gl,if_false,N0]
       exact q1
      exact⟨u,SW gX dB q2,SX m q3 (S1 _ cR)⟩
    have:=qp.list (C:=.bK (ki C hp w)) (cs.length / len) (lN (cs.length / len) len (cs.map (·.1))) r 0 cap (by rw[Fj];exact hle) hrr
    rw[Fj]at this
    exact this
   |false=>
   rw[cL]at hf
   simp only[cond_false]at hf
   split at hf
   ·rename_i us gy
    cases hf
    obtain⟨r,cap,gX,hle,rfl⟩:=h.eo
    obtain⟨vs,k1,k0,k2,k3,k4⟩:=(m.box b _ r (vf hcs) gX).read gy
    have iK:zw 0 us=Gk:=by simpa[below]using hb
    have fE:aM (.bK (ki C hp w)) us vs:=qp.shift (C:=C) (C':=.bK (ki C hp w)) 0 (fun _ _ _ h=>Fi m h) (fun b r aX=>by omega) k1 iK
    have jA:∀(us:List qa) (vs:List Value),aM C us vs→(∀v∈vs,v.oneCell'=Gk)→us.flatMap qa.flat=us∧∀u∈us,u.flat.length=1:=by
     intro us
     induction us with
     |nil=>intro _ _ _;exact⟨rfl,by simp⟩
     |cons u us ih=>
      intro vs h h1
      cases h with
      |cons _ _ v vs hx h=>
       obtain⟨i1,i2⟩:=ih vs h (fun v hv=>h1 v (by simp[hv]))
       have wG:=qt4 hx (h1 v (by simp))
       rw[Sn,qcf wG,i1]
       refine⟨rfl,fun u' oM=>?_⟩
       rcases Sx.1 oM with rfl|oM
       ·rw[qcf wG];rfl
       ·exact i2 u' oM
    obtain⟨f1,f2⟩:=jA us vs k1 k4
    have hcells:bY (.bK (ki C hp w)) r (us.flatMap qa.flat) off:=by
     rw[f1]
     exact bY.gW fE fun j u hj=>SW gX (k3 j u hj) (k4 u (Gq hj))
    have hl:us.length=len:=k0
    have:=qp.list (C:=.bK (ki C hp w)) 1 us r off cap (by omega) (aY.ej hcells f2)
    rw[hl]at this
    exact this
   ·cases hf
  ·cases hf
 ·rename_i b bu len
  split at hf
  ·rename_i sz db xs fZ
   cases hk:(Gn bu db&&Ha len xs.length)with
   |false=>rw[hk]at hf;cases hf
   |true=>
    rw[hk]at hf
    simp only[cT,I.injEq]at hf
    subst hf
    simp only[En]at hk
    obtain rfl:=E2 hk.1
    have hlen:=E3 hk.2
    cases h with
    |ak _ _ _ r0 q cap hβ hT hl=>
     obtain⟨q',jN,k1,k2,k3,k4,_⟩:=m.box b _ r0 fZ hβ
     have heq:=(k2 _ hT rfl).2 rfl
     simp only[Prod.mk.injEq]at heq
     obtain⟨rfl,rfl⟩:=heq
     obtain⟨cells,t,vs,g1,g2,g3,g4,g5,g6,g7⟩:=k3
     have S2:Hid C hp q:=.inr ⟨b,sz,bu,xs,r0,cap,fZ,hβ,hT⟩
     have hall:bY (.bK (ki C hp w)) q (xs.flatMap qa.flat) 0:=by
      refine bY.gW (qp.imp (C:=.bK C.K) (C':=.bK (ki C hp w)) ⟨fun _ _ _ h=>Fi m h,fun _ _ h=>h⟩ g5) fun j u hj=>?_
      refine qty S2 ?_ (g7 u (Gq hj))
      unfold World.cell?
      rw[g1]
      simp only[Hd,Gl,if_false,N0]
      exact g6 j u hj
     have cL:aY (.bK (ki C hp w)) q sz xs 0:=aY.ej hall g4
     have:=qp.list (C:=.bK (ki C hp w)) sz (xs.take len) q 0 cap (by rw[Md];omega) (cL.take len)
     rw[Md,Nat.min_eq_left hlen]at this
     exact this
  ·cases hf
 ·cases hf
  exact SX m h hb
theorem S3 (m:av P C ω w0 C0 hp w):∀ {xs fq:List qa} {vs:List Value},kT hp xs=I fq→aM C xs vs→zw 0 fq=Gk→aM (.bK (ki C hp w)) fq vs
 | [],fq,vs,hf,h,_=>by
  simp only[kT,I.injEq]at hf
  subst hf
  cases h
  exact .nil
 |x::xs,fq,vs,hf,h,hb=>by
  simp only[kT]at hf
  split at hf
  ·rename_i y hy
   split at hf
   ·rename_i ys mf
    cases hf
    simp only[zw,En]at hb
    cases h with
    |cons _ _ v vs hx h=>exact .cons _ _ _ _ (S0 m hy hx hb.1) (S3 m mf h hb.2)
   ·cases hf
  ·cases hf
theorem S4 (m:av P C ω w0 C0 hp w):∀ {xs fq:List qa} {vs:List Value},aB.bj hp xs=I fq→aM C xs vs→zw 0 fq=Gk→aM (.bK (ki C hp w)) fq vs
 | [],fq,vs,hf,h,_=>by
  simp only[aB.bj,I.injEq]at hf
  subst hf
  cases h
  exact .nil
 |x::xs,fq,vs,hf,h,hb=>by
  cases h with
  |cons _ _ v vs hx h=>
   unfold aB.bj at hf
   split at hf
   ·cases ‹_::_=[]›
   ·rename_i cs pN heq
    cases heq
    split at hf
    ·rename_i y hy
     split at hf
     ·rename_i ys mf
      cases hf
      simp only[zw,below,En]at hb
      obtain⟨us,rfl,hu⟩:=bD.dS hx
      exact .cons _ _ _ _ (.agg _ _ (S3 m hy hu hb.1)) (S4 m mf h hb.2)
     ·cases hf
    ·cases hf
   ·rename_i heq
    cases heq
    split at hf
    ·rename_i y hy
     split at hf
     ·rename_i ys mf
      cases hf
      simp only[zw,En]at hb
      exact .cons _ _ _ _ (S0 m hy hx hb.1) (S4 m mf h hb.2)
     ·cases hf
    ·cases hf
theorem q59 (m:av P C ω w0 C0 hp w){x x':qa}{v:Value}(hf:aB hp x=I x')(h:bD C x v)(hb:below 0 x'=Gk):bD (.bK (ki C hp w)) x' v:=by
 unfold aB at hf
 split at hf
 ·split at hf
  ·rename_i ys mf
   cases hf
   obtain⟨us,rfl,hu⟩:=h.dS
   exact .agg _ _ (S3 m mf hu (by simpa[below]using hb))
  ·cases hf
 ·split at hf
  ·rename_i ys mf
   cases hf
   cases h with
   |aC _ vs hu=>exact .aC _ _ (S4 m mf hu (by simpa[below]using hb))
  ·cases hf
 ·exact S0 m hf h hb
end
def zH:qo→Exit
 | .normal=>.normal
 | .exit id=>.exit id
 | .ret=>.ret
def iD (ρ:Option Nat):Fence:={ Fence.wide with round:=ρ }
theorem qvs {ρ:Option Nat}{n:Nat}{P:Program}{f:FuncId}{args:Array Value}{w:World}{R:Ending→World→Prop}:CallsIn (iD ρ) n P f args w R↔CallsIn Fence.wide n P f args w R:=Iff.rfl
def Marks (C:ay)(B:Nat)(ds:List Deferred):Prop:=∃rs:List Nat,ds=rs.map (fun r=>{ target:=.collected r,args:=#[] })∧rs.Nodup∧∀r∈rs,C.D r∧B≤r
theorem Marks.mono {C C':ay}{B:Nat}{ds:List Deferred}(h:Marks C B ds)(hle:C.le C'):Marks C' B ds:=
 let ⟨rs,h1,h2,h3⟩:=h; ⟨rs,h1,h2,fun r hr=>⟨hle.d r (h3 r hr).1,(h3 r hr).2⟩⟩
theorem Marks.nil {C:ay}{B:Nat}:Marks C B []:=⟨[],rfl,List.nodup_nil,by simp⟩
def b9 (P:Program)(xc:XC):Prop:=
 ∀(ρ:Option Nat) (nt:Nat) (c:Code) (ca:qf) (st bJ:qg) (x:qo),EG P nt c ca→(ρ≠Gm→kn ca=Gk)→xc ca st=I (x,bJ) →
  ∀(C:ay) (ω:Nat→Option Loc) (w0:World) (C0:ay) (a:Act) (w:World),av P C ω w0 C0 st.heap w→aj C ω w w0.heap.size st.env a.tmps→a.tmps.size=nt→Marks C w0.heap.size a.defers →
   c.wpIn (iD ρ) 0 P (fun e a' w'=>e=zH x∧a'.tmps.size=nt∧∃C' ω',C.le C'∧Marks C' w0.heap.size a'.defers∧av P C' ω' w0 C0 bJ.heap w'∧aj C' ω' w' w0.heap.size bJ.env a'.tmps) a w
def IsoCall (P:Program)(k:Nat)(args:List qa)(v:qa)(ow:Bool):Prop:=
 ∀(K:Nat→Nat→Option Value) (w:World) (vs:List Value),Tabs P w →
  (∀r o u,K r o=I u→w.cell? ⟨r,o,Gm⟩=I u)→(∀r o u,K r o=I u→u.oneCell'=Gk)→aM (.bK K) args vs →
  CallsIn Fence.wide 0 P k ⟨vs⟩ w fun e w'=>∃u K',e=.returned u∧Ext w w'∧(∀r o x,K r o=I x→K' r o=I x)∧(∀r o,r<w.heap.size→K' r o=K r o) ∧
   (∀r o x,K' r o=I x→w'.cell? ⟨r,o,Gm⟩=I x)∧(∀r o x,K' r o=I x→x.oneCell'=Gk)∧bD (.bK K') v u ∧
   (ow=Gk→∃ℓ ω',aF (.bK K') ω' w' w.heap.size ℓ v u)
def Enters (P : Program) (k : Nat) : Prop := ∃ fn, P.funcs[k]? = I fn ∧ fn.name ≠ "runtime.NumGoroutine" ∧ fn.body.isSome
def zI (P:Program)(k:Nat)(args:List qa)(h:j8)(v:qa)(ow:Bool)(h':j8):Prop:=
 ∀(C:ay) (ω:Nat→Option Loc) (w:World) (vs:List Value),aM C args vs→av P C ω w C h w →
  CallsIn Fence.wide 0 P k ⟨vs⟩ w fun e w'=>∃u C' ω',e=.returned u∧C.le C'∧av P C' ω' w C h' w'∧bD C' v u∧(ow=Gk→aF C' ω' w' w.heap.size (.slot 0) v u)
def S5 (P:Program)(k:Nat)(es:List (qa×qa)):Prop:=
 ∀(K:Nat→Nat→Option Value) (w:World),Tabs P w →
  (∀r o u,K r o=I u→w.cell? ⟨r,o,Gm⟩=I u)→(∀r o u,K r o=I u→u.oneCell'=Gk) →
  CallsIn Fence.wide 0 P k ⟨[]⟩ w fun e w'=>∃q K' bP clock,e=.returned (.map (I q))∧Ext w w'∧(∀r o x,K r o=I x→K' r o=I x)∧(∀r o,r<w.heap.size→K' r o=K r o) ∧
   (∀r o x,K' r o=I x→w'.cell? ⟨r,o,Gm⟩=I x)∧(∀r o x,K' r o=I x→x.oneCell'=Gk)∧w.heap.size≤q∧w'.heap[q]?=I (.map bP clock)∧qz (.bK K') es bP.toList
structure qx (P:Program)(p:qt):Prop where
 fn:∀k f,p.bL k=I f→∃fn h,P.funcs[k]?=I fn∧EF P h fn=I f
 gF:∀k f,p.cm k=I f→Enters P k∧∀args v o,f args=I (v,o)→lM v=Gk→zw 0 args=Gk→IsoCall P k args v o
 mixed:P.follows .mixedOrders=Gk
 fA:∀k f,p.di k=I f→Enters P k∧∀args h v o h',f args h=I (v,o,h')→zI P k args h v o h':=by intro k f h;cases h
 maps:∀k es,p.maps k=I es→Enters P k∧S5 P k es:=by intro k f h;cases h
theorem S6 {P : Program} {h : qb} {fn : Func} {f : qd} (hc : EF P h fn = I f) : ∃ c, fn.body = I c ∧ gw P h fn.ntmps c = I f.body ∧ yQ P fn.results.toList = I f.results ∧ f.ntmps = fn.ntmps ∧ fn.name ≠ "runtime.NumGoroutine" := by
 unfold EF at hc
 split at hc
 ·rename_i c hb
  split at hc
  ·rename_i b rs h1 h2
   split at hc
   ·cases hc
   ·rename_i hn
    cases hc
    exact⟨c,hb,h1,h2,rfl,by simpa using hn⟩
  ·cases hc
 ·cases hc
theorem qx.enters {P:Program}{p:qt}(h:qx P p){k:Nat}{f:qd}(hf:p.bL k=I f):Enters P k:=by
 obtain⟨fn,hh,h1,h2⟩:=h.fn k f hf
 obtain⟨c,hb,_,_,_,hn⟩:=S6 h2
 exact⟨fn,h1,hn,by simp[hb]⟩
theorem qsk {P:Program}{k:Nat}(h:Enters P k)(args:Array Value)(w:World):(callFunc k args).run P w=.ok (.enter k args) w:=by
 obtain⟨fn,h1,h2,h3⟩:=h
 simp[callFunc,h1,h2,Option.isNone_iff_eq_none,Option.isSome_iff_ne_none.1 h3]
section
variable {P:Program}{p:qt}{xc:XC}{C C0:ay}{ω:Nat→Option Loc}{w w0:World}{hp:j8}{env:Env}{tmps:Array Value}{B:Nat}{a:Act}{o:Oper}{d:Loc}
theorem qt5:∀ {args:List qa} {i s:Nat} {x:qa×Bool},yd s (nS i args)=I x→∃j,s=i+j∧args[j]?=I x.1∧x.2=G2
 | [],_,_,_,h=>by simp[nS,yd]at h
 |v::args,i,s,x,h=>by
  simp only[nS,yd]at h
  cases hb:Gn i s with
  |true=>
   simp only[hb,cT,I.injEq]at h
   subst h
   exact⟨0,(E2 hb).symm,rfl,rfl⟩
  |false=>
   simp only[hb,cond_false]at h
   obtain⟨j,h1,h2,h3⟩:=qt5 h
   exact⟨j+1,by omega,by simpa using h2,h3⟩
theorem q9e {r o:Nat}{v:Value}(h:w.cell? ⟨r,o,Gm⟩=I v):∃cs t fr,w.heap[r]?=I (.cells cs t fr):=by
 unfold World.cell? at h
 split at h
 ·rename_i cs t fr hg;exact⟨cs,t,fr,hg⟩
 ·cases h
theorem av.other {D':Nat→Prop}(m:av P C ω w0 C0 hp w){r:Nat}{w':World}(hu:jk w w' r)(hβ:∀b,C.β b≠I r)(hr:w0.heap.size≤r)(kJ:∀cs t fr,w.heap[r]?≠I (.cells cs t fr))(hD:∀k,D' k→C.D k∧k≠r)(h0:∀k,C0.D k→D' k):
  av P { C with D:=D' } ω w0 C0 hp w':=by
 have cB:∀ {B:Nat} {ℓ:Loc} {x:qa} {v:Value},aF C ω w B ℓ x v→aF { C with D:=D' } ω w' B ℓ x v:=by
  intro B ℓ x v ho
  unfold aF at *
  split at ho
  ·obtain⟨h1,h2,h3,h4,h8,⟨cells,elem,h5,h6⟩,h7⟩:=ho
   refine⟨h1,h2,h3,h4,h8,⟨cells,elem,?_,h6⟩,h7⟩
   rw[hu.other _ (fun h=>kJ _ _ _ (h▸h5))]
   exact h5
  ·obtain⟨h1,h2,h3,h4,h8,⟨cells,elem,h5,h6⟩,h7⟩:=ho
   refine⟨h1,h2,h3,h4,h8,⟨cells,elem,?_,h6⟩,h7⟩
   rw[hu.other _ (fun h=>kJ _ _ _ (h▸h5))]
   exact h5
  ·trivial
 refine { base:=m.base,know:=?_,cQ:=m.cQ,apart:=m.apart,inj:=m.inj,lt:=?_,size:=?_,frame:=?_,eK:=?_,os:=hu.os.trans m.os,output:=hu.output.trans m.output,fresh:=m.fresh,grown:=⟨m.grown.k,m.grown.b,m.grown.w,h0,m.grown.t⟩,old:=m.old,box:=?_,gV:=fun q hq=>by rw[hu.size];exact m.gV q hq }
 ·intro k p v hk
  have hc:=m.know _ _ _ hk
  have bw:k≠r:=fun h=>by
   obtain⟨cs,t,fr,hg⟩:=q9e hc
   exact kJ cs t fr (h▸hg)
  simp only[World.cell?]at hc ⊢
  rw[hu.other k bw];exact hc
 ·intro b p hb
  rw[hu.size];exact m.lt b p hb
 ·rw[hu.size];exact m.size
 ·intro k hk hn hw
  rw[hu.other k (by omega)];exact m.frame k hk hn hw
 ·intro k hk
  obtain⟨h1,h2⟩:=hD k hk
  rw[hu.other k h2];exact m.eK k h1
 ·intro b x p hx hb
  refine bn.imp (C:=C) (C':={ C with D:=D' }) ⟨fun _ _ _ h=>h,fun _ _ h=>h⟩ (hu.other p (fun h=>hβ b (h▸hb))) (fun j y v ho=>cB ho) (m.box b x p hx hb) (hq:=fun q n cap k=>by
   obtain⟨_,_,_,_,_,⟨cells,elem,h5,_⟩,_⟩:=k
   exact hu.other q (fun h=>kJ _ _ _ (h▸h5)))
theorem aF.jQ {D':Nat→Prop}{r:Nat}{w':World}(hu:jk w w' r)(kJ:∀cs t fr,w.heap[r]?≠I (.cells cs t fr)){ℓ:Loc}{x:qa}{v:Value}(ho:aF C ω w B ℓ x v):aF { C with D:=D' } ω w' B ℓ x v:=by
 unfold aF at *
 split at ho
 ·obtain⟨h1,h2,h3,h4,h8,⟨cells,elem,h5,h6⟩,h7⟩:=ho
  refine⟨h1,h2,h3,h4,h8,⟨cells,elem,?_,h6⟩,h7⟩
  rw[hu.other _ (fun h=>kJ _ _ _ (h▸h5))]
  exact h5
 ·obtain⟨h1,h2,h3,h4,h8,⟨cells,elem,h5,h6⟩,h7⟩:=ho
  refine⟨h1,h2,h3,h4,h8,⟨cells,elem,?_,h6⟩,h7⟩
  rw[hu.other _ (fun h=>kJ _ _ _ (h▸h5))]
  exact h5
 ·trivial
theorem bD.pR {D':Nat→Prop}{x:qa}{v:Value}(h:bD C x v):bD { C with D:=D' } x v:=qp.imp (C:=C) (C':={ C with D:=D' }) ⟨fun _ _ _ h=>h,fun _ _ h=>h⟩ h
theorem aj.jQ {D':Nat→Prop}{r:Nat}{w':World}(hu:jk w w' r)(kJ:∀cs t fr,w.heap[r]?≠I (.cells cs t fr))(e:aj C ω w B env tmps):aj { C with D:=D' } ω w' B env tmps:=
 fun s x hs=>let ⟨v,h1,h2,h3⟩:=e s x hs; ⟨v,h1,bD.pR h2,fun h=>(h3 h).jQ hu kJ⟩
theorem q0h {fn:Func}{R:Ending→World→Prop}:∀(rs:List Nat) (C':ay) (w:World),C.le C'→av P C' ω w0 C hp w→aj C' ω w w0.heap.size env tmps→rs.Nodup→(∀r∈rs,C'.D r∧w0.heap.size≤r)→(∀k,C.D k→k<w0.heap.size) →
  (∀(C2:ay) (w2:World),C.le C2→C2.D=C.D→av P C2 ω w0 C hp w2→aj C2 ω w2 w0.heap.size env tmps→∃v,(results fn tmps).run P w2=.ok v w2∧R (.returned v) w2) →
  LeavesInM Fence.wide 0 P fn tmps R (rs.map fun r=>{ target:=.collected r,args:=#[] }) .returning w
 | [],C',w,hle,m,e,_,_,hD,dO=>by
  have hr0:∀ {k},C.D k→C'.D k:=fun h=>hle.d _ h
  -- the marks are forgotten
  have m2:av P { C' with D:=C.D } ω w0 C hp w:={ m with
   eK:=fun r hr=>m.eK r (hr0 hr)
   grown:=⟨m.grown.k,m.grown.b,m.grown.w,fun _ h=>h,m.grown.t⟩
   box:=fun b x r hx hb=>bn.imp (C:=C') (C':={ C' with D:=C.D }) ⟨fun _ _ _ h=>h,fun _ _ h=>h⟩ rfl (fun j y v ho=>ho) (m.box b x r hx hb) }
  have e2:aj { C' with D:=C.D } ω w w0.heap.size env tmps:=fun s x hs=>let ⟨v,h1,h2,h3⟩:=e s x hs; ⟨v,h1,bD.pR h2,h3⟩
  exact dO { C' with D:=C.D } w ⟨hle.k,hle.b,hle.w,fun _ h=>h,hle.t⟩ rfl m2 e2
 |r::rs,C',w,hle,m,e,Db,Fk,hD,dO=>by
  obtain⟨hDr,hBr⟩:=Fk r (by simp)
  have hg:=m.eK r hDr
  have aX:=(E4.1 hg).1
  have kJ:∀cs t fr,w.heap[r]?≠I (.cells cs t fr):=fun cs t fr h=>by rw[hg]at h;cases h
  have hu:jk w (jB w r (.deferred Gm)) r:=Dc aX (by simp)
  have hβ:∀b,C'.β b≠I r:=by
   intro b hb
   obtain⟨x,hx⟩:=N2 (m.lt b r hb).2▸(⟨_,rfl⟩:∃x,I (hp[b]'(m.lt b r hb).2)=I x)
   have h0:=m.box b x r hx hb
   cases x with
   |hole=>exact h0
   |cells cs=>obtain⟨vs,elem,h1,_⟩:=h0;rw[hg]at h1;cases h1
   |map es=>obtain⟨bP,clock,h1,_⟩:=h0;rw[hg]at h1;cases h1
   |iter s pos=>have h1:w.heap[r]?=_:=h0;rw[hg]at h1;cases h1
   |loop l=>obtain⟨lp,h1,_⟩:=h0;rw[hg]at h1;cases h1
   |fB t e l=>obtain⟨p,v,h1,_⟩:=h0;rw[hg]at h1;cases h1
   |dead=>obtain⟨cs,t,h1⟩:=h0;rw[hg]at h1;cases h1
   |vec sz bu xs=>obtain⟨_,_,_,_,_,_,cs,t,h1⟩:=h0;rw[hg]at h1;cases h1
  have bp:(Instr.takeDeferred r).run P w=.ok [] (jB w r (.deferred Gm)):=by
   have hs:=wL (P:=P) (x:=.deferred Gm) hg (by simp)
   simp only[Instr.takeDeferred,Sem.run_bind,oN hg (by simp),Result.andThen_ok,hs,Sem.run_pure]
  refine⟨by simp,.inl ⟨r,_,rfl,bp,?_⟩⟩
  have Fl:=List.nodup_cons.1 Db
  have m2:=m.other (D':=fun k=>C'.D k∧k≠r) hu hβ hBr kJ (fun k h=>h) (fun k h=>⟨hle.d k h,fun hk=>by have:=hD k h;omega⟩)
  exact q0h rs { C' with D:=fun k=>C'.D k∧k≠r } _ ⟨hle.k,hle.b,hle.w,fun k h=>⟨hle.d k h,fun hk=>by have:=hD k h;omega⟩,hle.t⟩ m2 (e.jQ hu kJ) Fl.2
   (fun k hk=>⟨⟨(Fk k (by simp[hk])).1,fun h=>Fl.1 (h▸hk)⟩,(Fk k (by simp[hk])).2⟩) hD dO
theorem q5s (hx:b9 P xc){k:Nat}{fn:Func}{h:qb}{f:qd}(hfn:P.funcs[k]?=I fn)(hc:EF P h fn=I f){args:List qa}{v:qa}{ow:Bool}{h':j8}(hr:oI xc f args hp=I (v,ow,h')){vs:List Value}(dM:aM C args vs)(m:av P C ω w C hp w):
  CallsIn Fence.wide 0 P k ⟨vs⟩ w fun e w'=>∃u C' ω',e=.returned u∧C.le C'∧av P C' ω' w C h' w'∧bD C' v u∧(ow=Gk→aF C' ω' w' w.heap.size (.slot 0) v u):=by
 obtain⟨c,hb,h1,h2,h3,_⟩:=S6 hc
 unfold oI at hr
 have hD:∀k,C.D k→k<w.heap.size:=fun k hk=>(E4.1 (m.eK k hk)).1
 cases hle:Ha args.length f.ntmps with
 |false=>simp[hle]at hr
 |true=>
  simp only[hle,cT]at hr
  have hlen:=E3 hle
  have vd:=dM.length
  refine callsIn_of_wp_marks hfn hb trivial ?_
  have cD:((⟨vs⟩:Array Value)++Ss (fn.ntmps-(⟨vs⟩:Array Value).size) undef).size=fn.ntmps:=by
   simp;omega
  have Fm:aj C ω w w.heap.size (nS 0 args) ((⟨vs⟩:Array Value)++Ss (fn.ntmps-(⟨vs⟩:Array Value).size) undef):=by
   intro s x hx
   obtain⟨j,rfl,hj,hf⟩:=qt5 hx
   obtain⟨u,k1,k2⟩:=dM.get hj
   have aX:j<vs.length:=(Hb.1 k1).1
   refine⟨u,?_,k2,by simp[hf]⟩
   rw[N0,Array.getElem?_append_left (by simpa using aX)]
   simpa using k1
  have fin:∀(st:qg) (a':Act) (w':World) (C':ay) (ω':Nat→Option Loc),C.le C'→Marks C' w.heap.size a'.defers→av P C' ω' w C st.heap w'→aj C' ω' w' w.heap.size st.env a'.tmps →
    (match kW st f.results with
     |some xs=>I ((yr xs).1,(yr xs).2,kF st f.results)
     |none=>Gm)=I (v,ow,h') →
    LeavesInM Fence.wide 0 P fn a'.tmps (fun e w'=>∃u C' ω',e=.returned u∧C.le C'∧av P C' ω' w C h' w'∧bD C' v u∧(ow=Gk→aF C' ω' w' w.heap.size (.slot 0) v u)) a'.defers .returning w':=by
   intro st a' w' C' ω' hle ⟨rs,hds,Db,Fk⟩ m' e' hr
   rw[hds]
   refine q0h (C:=C) (ω:=ω') (w0:=w) (hp:=st.heap) (env:=st.env) rs C' w' hle m' e' Db Fk hD ?_
   intro C2 w2 iM _ m2 e2
   split at hr
   ·rename_i xs oL
    cases hr
    obtain⟨u,ω2,k1,k2,k3,k4⟩:=q5n (fn:=fn) m2 e2 h2 oL
    exact⟨u,k1,u,C2,ω2,rfl,iM,k2,k3,k4⟩
   ·cases hr
  split at hr
  ·rename_i st bS
   refine wpIn_mono (hx Gm fn.ntmps c f.body _ _ _ ⟨h,h1⟩ (fun h=>absurd rfl h) bS C ω w C _ w m Fm cD Marks.nil) ?_
   rintro e a' w' ⟨rfl,q1,C',ω',q3,q2,q4,q5⟩
   exact fin st a' w' C' ω' q3 q2 q4 q5 hr
  ·rename_i st bS
   refine wpIn_mono (hx Gm fn.ntmps c f.body _ _ _ ⟨h,h1⟩ (fun h=>absurd rfl h) bS C ω w C _ w m Fm cD Marks.nil) ?_
   rintro e a' w' ⟨rfl,q1,C',ω',q3,q2,q4,q5⟩
   exact fin st a' w' C' ω' q3 q2 q4 q5 hr
  ·cases hr
theorem q4u {K:Nat→Nat→Option Value}(ht:Tabs P w)(h1:∀r o u,K r o=I u→w.cell? ⟨r,o,Gm⟩=I u)(h2:∀r o u,K r o=I u→u.oneCell'=Gk):av P (.bK K) (fun _=>Gm) w (.bK K) [] w where
 base:=⟨ht,fun g _=>⟨fun b h=>(by cases h),fun h=>h⟩⟩
 know:=h1
 cQ:=h2
 apart:=by simp[ay.bK]
 inj:=by simp[ay.bK]
 lt:=by simp[ay.bK]
 size:=Nat.le_refl _
 frame _ _ _ _:=rfl
 eK _ h:=h.elim
 os:=rfl
 output:=rfl
 fresh:=by simp[ay.bK]
 grown:=ay.le_refl _
 old _ _ _ _:=rfl
 box:=by simp
 gV _ h:=h.elim
theorem Fo (hp:qx P p)(hx:b9 P xc){k:Nat}{args:List qa}{h h':j8}{v:qa}{ow:Bool}(hr:zg p xc k args h=I (v,ow,h')):Enters P k∧zI P k args h v ow h':=by
 unfold zg at hr
 split at hr
 ·rename_i f hf
  obtain⟨fn,hh,hfn,Fp⟩:=hp.fn k f hf
  exact⟨hp.enters hf,fun C ω w vs dM m=>q5s hx hfn Fp hr dM m⟩
 ·split at hr
  ·rename_i f hf
   obtain⟨he,hs⟩:=hp.fA k f hf
   exact⟨he,hs _ _ _ _ _ hr⟩
  ·cases hr
theorem qz.bK {es:List (qa×qa)}{ms:List MapEntry}(h:qz C es ms):tQ 0 es=Gk→qz (.bK C.K) es ms:=by
 induction h with
 |nil=>exact fun _=>.nil
 |cons k v es m ms hk hv _ ih=>
  intro hb
  simp only[tQ,En]at hb
  exact .cons _ _ _ _ _ (qp.shift (C:=C) (C':=.bK C.K) 0 (fun _ _ _ h=>h) (fun b r aX=>by omega) hk hb.1.1) (qp.shift (C:=C) (C':=.bK C.K) 0 (fun _ _ _ h=>h) (fun b r aX=>by omega) hv hb.1.2) (ih hb.2)
theorem q9p (hp:qx P p)(hx:b9 P xc){k b:Nat}{ow:Bool}{h1:j8}{es:List (qa×qa)}(hr:zg p xc k [] []=I (.map b,ow,h1))(hb:h1[b]?=I (.map es))(he:tQ 0 es=Gk):Enters P k∧S5 P k es:=by
 obtain⟨ln,mG⟩:=Fo hp hx hr
 refine⟨ln,fun K w ht g1 g2=>?_⟩
 refine CallsIn.mono (mG _ _ _ [] .nil (q4u (P:=P) ht g1 g2)) ?_
 rintro e w' ⟨u,C',ω',rfl,hle,m',fE,_⟩
 cases fE with
 |map _ q hq=>
  obtain⟨bP,clock,k1,k2⟩:=m'.box b _ q hb hq
  refine⟨q,C'.K,bP,clock,rfl,⟨m'.size,fun r hr=>m'.frame r hr (by simp[ay.bK]) (by simp[ay.bK]),m'.os,m'.output⟩,hle.1,fun r o hr=>m'.old r o hr (by simp[ay.bK]),m'.know,m'.cQ,?_,k1,k2.bK he⟩
  rcases m'.fresh b q hq with h|h|h
  ·cases h
  ·exact h
  ·exact h.elim
theorem Mv (hp:qx P p)(hx:b9 P xc){k:Nat}{args:List qa}{v:qa}{ow:Bool}(hr:jz p xc k args=I (v,ow))(hb:zw 0 args=Gk):Enters P k∧lM v=Gk∧IsoCall P k args v ow:=by
 unfold jz at hr
 split at hr
 ·rename_i f hf
  obtain⟨he,Fq⟩:=hp.gF k f hf
  split at hr
  ·rename_i v' o' Fs
   cases kK:lM v' with
   |false=>simp[kK]at hr
   |true=>
    simp only[kK,cT]at hr
    cases hr
    exact⟨he,kK,Fq args _ _ Fs kK hb⟩
  ·cases hr
 ·split at hr
  ·rename_i v0 o' h' Fs
   split at hr
   ·rename_i v' Df
    cases kK:lM v' with
    |false=>simp[kK]at hr
    |true=>
     simp only[kK,cT]at hr
     cases hr
     obtain⟨ln,mG⟩:=Fo hp hx Fs
     ·refine⟨ln,kK,?_⟩
      intro K w vs ht h1 h2 dM
      have:=mG _ _ _ _ dM (q4u (P:=P) ht h1 h2)
      refine CallsIn.mono this ?_
      rintro e w' ⟨u,C',ω',rfl,hle,m',fE,cB⟩
      refine⟨u,ki C' h' w',rfl,?_,fun r o x hr=>Fi m' (hle.1 r o x hr),fun r o hr=>?_,fun r o x hr=>(Mu m' hr).1,fun r o x hr=>(Mu m' hr).2,q59 m' Df fE kK,?_⟩
      ·exact⟨m'.size,fun r hr=>m'.frame r hr (by simp[ay.bK]) (by simp[ay.bK]),m'.os,m'.output⟩
      ·have hold:=m'.old r o hr (by simp[ay.bK])
       unfold ki
       rw[if_neg]
       ·exact hold
       intro hh
       have:=jbd hle.w m' hh
       omega
      ·intro ho
       simp only[En]at ho
       have hℓ:=cB ho.1
       refine⟨.slot 0,ω',?_⟩
       cases v0 with
       |list n sz xs=>
        have Ft:v=.list n sz xs:=by
         simp only[aB,fT,I.injEq]at Df
         exact Df.symm
        subst Ft
        unfold aF at *
        split at hℓ
        ·obtain⟨g1,g2,g3,g4,g5,g6,g7⟩:=hℓ
         refine⟨g1,.inl (g2.resolve_right (by rw[hle.w];exact fun h=>h)),by simp[ay.bK],g4,g5,g6,fun o wP=>?_⟩
         show ki C' h' w' _ o=Gm
         unfold ki
         rw[if_neg]
         ·exact g7 o wP
         ·rintro (⟨b,hb⟩|hh)
          ·exact g3 b hb
          ·rcases hh.is m' with⟨b,hb⟩|⟨b,_,_,_,_,_,_,h2⟩
           ·exact g3 b hb
           ·have:=h2.1;rw[g1]at this;simp at this
        all_goals trivial
       |_=>exact absurd ho.2 (by simp[qa.cu])
   ·cases hr
  ·cases hr
end
section
variable {P:Program}{p:qt}{xc:XC}{C C0 C1:ay}{ω ω1:Nat→Option Loc}{w w' w0:World}{hp h1:j8}{env:Env}{tmps:Array Value}{B:Nat}{a:Act}{o:Oper}{d:Loc}
theorem aF.grow {K':Nat→Nat→Option Value}{ℓ:Loc}{x:qa}{v:Value}(hx:Ext w w')(hK:∀r o,r<w.heap.size→K' r o=C.K r o)(ho:aF C ω w B ℓ x v):aF { C with K:=K' } ω w' B ℓ x v:=by
 unfold aF at *
 split at ho
 ·obtain⟨h1,h2,h3,h4,h8,⟨cells,elem,h5,h6⟩,h7⟩:=ho
  have aX:=(E4.1 h5).1
  exact⟨h1,h2,h3,h4,h8,⟨cells,elem,hx.get h5,h6⟩,fun o ho=>by
   show K' _ o=Gm
   rw[hK _ o aX];exact h7 o ho⟩
 ·obtain⟨h1,h2,h3,h4,h8,⟨cells,elem,h5,h6⟩,h7⟩:=ho
  have aX:=(E4.1 h5).1
  exact⟨h1,h2,h3,h4,h8,⟨cells,elem,hx.get h5,h6⟩,fun o ho=>by
   show K' _ o=Gm
   rw[hK _ o aX];exact h7 o ho⟩
 ·trivial
theorem av.bK {K':Nat→Nat→Option Value}(m:av P C ω w0 C0 hp w)(hx:Ext w w')(hle:∀r o x,C.K r o=I x→K' r o=I x)(hK:∀r o,r<w.heap.size→K' r o=C.K r o)(hk:∀r o x,K' r o=I x→w'.cell? ⟨r,o,Gm⟩=I x)(h1:∀r o x,K' r o=I x→x.oneCell'=Gk):
  av P { C with K:=K' } ω w0 C0 hp w' where
 base:=m.base
 know:=hk
 cQ:=h1
 apart b r o hb:=by
  show K' r o=Gm
  rw[hK r o (m.lt b r hb).1];exact m.apart b r o hb
 inj:=m.inj
 lt b r hb:=⟨H7 (m.lt b r hb).1 hx.size,(m.lt b r hb).2⟩
 size:=Gp m.size hx.size
 frame:=(m.ext hx).frame
 eK:=(m.ext hx).eK
 os:=(m.ext hx).os
 output:=(m.ext hx).output
 fresh:=m.fresh
 grown:=ay.le_trans m.grown ⟨hle,fun _ _ h=>h,rfl,fun _ h=>h,fun _ h=>h⟩
 old r o hr hw:=by
  show K' r o=_
  rw[hK r o (H7 hr m.size)];exact m.old r o hr hw
 box b x r hb hr:=by
  have h0:=m.box b x r hb hr
  -- in the new world first,then in the richer context
  cases x with
  |hole=>exact h0
  |cells cs=>
   obtain⟨vs,elem,g1,g2,g3⟩:=h0
   exact⟨vs,elem,hx.get g1,g2,fun j c hc=>let ⟨v,a,q,b,d⟩:=g3 j c hc; ⟨v,a,q,qp.mono (C':={ C with K:=K' }) ⟨hle,fun _ _ h=>h,rfl,fun _ h=>h,fun _ h=>h⟩ b,fun e=>(d e).grow hx hK⟩⟩
  |map es=>obtain⟨bP,clock,g1,g2⟩:=h0;exact⟨bP,clock,hx.get g1,qz.mono (C:=C) (C':={ C with K:=K' }) ⟨hle,fun _ _ h=>h,rfl,fun _ h=>h,fun _ h=>h⟩ g2⟩
  |iter s pos=>exact hx.get h0
  |loop l=>obtain⟨lp,g1,g2⟩:=h0;exact⟨lp,hx.get g1,q9.mono (C:=C) (C':={ C with K:=K' }) ⟨hle,fun _ _ h=>h,rfl,fun _ h=>h,fun _ h=>h⟩ g2⟩
  |fB t e l=>obtain⟨p,v,g1,g2,g3,g4⟩:=h0;exact⟨p,v,hx.get g1,g2,g3,g4.grow hx hK⟩
  |dead=>obtain⟨cs,t,g1⟩:=h0;exact⟨cs,t,hx.get g1⟩
  |vec sz bu xs=>
   have hg:∀ {k:Nat} {c:Array Value} {t:TypeId},w.heap[k]?=I (.cells c t (0,0))→w'.heap[k]?=w.heap[k]?:=fun hk=>by rw[hx.get hk,hk]
   obtain⟨_,_,_,_,_,_,cs,t,g1⟩:=id h0
   refine dC.imp hle (fun _ h=>h) (fun _ h _=>h) (hg g1) (fun q n cap k=>⟨?_,k.grow hx hK⟩) h0
   obtain⟨_,_,_,_,_,⟨cells,elem,h5,_⟩,_⟩:=k
   exact hg h5
 gV q hq:=H7 (m.gV q hq) hx.size
theorem aj.bK {K':Nat→Nat→Option Value}(e:aj C ω w B env tmps)(hx:Ext w w')(hle:∀r o x,C.K r o=I x→K' r o=I x)(hK:∀r o,r<w.heap.size→K' r o=C.K r o):aj { C with K:=K' } ω w' B env tmps:=
 fun s x hs=>let ⟨v,h1,h2,h3⟩:=e s x hs; ⟨v,h1,qp.mono (C':={ C with K:=K' }) ⟨hle,fun _ _ h=>h,rfl,fun _ h=>h,fun _ h=>h⟩ h2,fun h=>(h3 h).grow hx hK⟩
theorem q5b (m:av P C ω w0 C0 hp w)(e:aj C ω w w0.heap.size env tmps){v:qa}{ow:Bool}{u:Value}{K':Nat→Nat→Option Value}(hx:Ext w w')(hle:∀r o x,C.K r o=I x→K' r o=I x)(hK:∀r o,r<w.heap.size→K' r o=C.K r o)(hk:∀r o x,K' r o=I x→w'.cell? ⟨r,o,Gm⟩=I x)(h1:∀r o x,K' r o=I x→x.oneCell'=Gk)
  (kK:lM v=Gk) (hr:bD (.bK K') v u) (ho:ow=Gk→∃ℓ ω',aF (.bK K') ω' w' w.heap.size ℓ v u):kf P C0 w0 C tmps d env ⟨v,ow,Gm,hp⟩ u w':=by
 have m':=m.bK hx hle hK hk h1
 have e':=e.bK hx hle hK
 have iW:bD { C with K:=K' } v u:=qp.shift (C:=.bK K') (C':={ C with K:=K' }) 0 (fun _ _ _ h=>h) (fun b r aX=>by omega) hr kK
 have cz:C.le { C with K:=K' }:=⟨hle,fun _ _ h=>h,rfl,fun _ h=>h,fun _ h=>h⟩
 by_cases hkL:∃(n:Bool) (sz:Nat) (xs:List qa) (ad:Addr) (len cap:Nat),v=.list n sz xs∧u=.slice (I ad) len cap∧ow=Gk
 ·obtain⟨n,sz,xs,ad,len,cap,rfl,rfl,rfl⟩:=hkL
  obtain⟨ℓ,ω',g1,S7,g3,g4,g5,g6,g7⟩:=ho rfl
  have g2:w.heap.size≤ad.block:=S7.resolve_right (fun h=>h)
  have zJ:∀ℓ x v,aF C ω w w0.heap.size ℓ x v→aF { C with K:=K' } (cr ω ad.block d) w' w0.heap.size ℓ x v:=fun ℓ x v h=>by
   have h2:=(h.fresh (ℓ':=d) g2).grow hx hK
   exact h2
  refine⟨{ C with K:=K' },cr ω ad.block d,cz,?_,?_,iW,fun _=>?_⟩
  ·have:=(m.jI ad.block d g2).bK hx hle hK hk h1
   exact this
  ·exact fun s x hs=>let ⟨v,h1,h2,h3⟩:=e s x hs; ⟨v,h1,qp.mono cz h2,fun h=>zJ _ _ _ (h3 h)⟩
  ·refine⟨by simp[cr],.inl (Gp m.size g2),fun b hb=>?_,g4,g5,g6,g7⟩
   have:=(m.lt b _ hb).1
   omega
 by_cases cV:∃(n:Nat) (ad:Addr),v=.cE n∧u=.pointer (I ad)∧ow=Gk
 ·obtain⟨n,ad,rfl,rfl,rfl⟩:=cV
  obtain⟨ℓ,ω',g1,S7,g3,g4,g5,g6,g7⟩:=ho rfl
  have g2:w.heap.size≤ad.block:=S7.resolve_right (fun h=>h)
  have zJ:∀ℓ x v,aF C ω w w0.heap.size ℓ x v→aF { C with K:=K' } (cr ω ad.block d) w' w0.heap.size ℓ x v:=fun ℓ x v h=>by
   have h2:=(h.fresh (ℓ':=d) g2).grow hx hK
   exact h2
  refine⟨{ C with K:=K' },cr ω ad.block d,cz,?_,?_,iW,fun _=>?_⟩
  ·have:=(m.jI ad.block d g2).bK hx hle hK hk h1
   exact this
  ·exact fun s x hs=>let ⟨v,h1,h2,h3⟩:=e s x hs; ⟨v,h1,qp.mono cz h2,fun h=>zJ _ _ _ (h3 h)⟩
  ·refine⟨by simp[cr],.inl (Gp m.size g2),fun b hb=>?_,g4,g5,g6,g7⟩
   have:=(m.lt b _ hb).1
   omega
 ·refine⟨{ C with K:=K' },ω,cz,m',e',iW,fun h=>?_⟩
  cases v with
  |list n sz xs=>
   cases u with
   |slice q len cap=>
    cases q with
    |some ad=>exact absurd ⟨_,_,_,_,_,_,rfl,rfl,h⟩ hkL
    |none=>trivial
   |_=>trivial
  |cE n=>
   cases u with
   |pointer q=>
    cases q with
    |some ad=>exact absurd ⟨_,_,rfl,rfl,h⟩ cV
    |none=>trivial
   |_=>trivial
  |_=>trivial
theorem jiu (m:av P C ω w0 C0 hp w)(e:aj C ω w w0.heap.size env tmps){b q:Nat}{K':Nat→Nat→Option Value}{es:List (qa×qa)}{bP:Array MapEntry}{clock:Nat}(hx:Ext w w')(hle:∀r o x,C.K r o=I x→K' r o=I x)(hK:∀r o,r<w.heap.size→K' r o=C.K r o)(hk:∀r o x,K' r o=I x→w'.cell? ⟨r,o,Gm⟩=I x)(h1:∀r o x,K' r o=I x→x.oneCell'=Gk)
  (hh:hp[b]?=I .hole) (hq:w.heap.size≤q) (hg:w'.heap[q]?=I (.map bP clock)) (hr:qz (.bK K') es bP.toList):kf P C0 w0 C tmps d env ⟨.map b,G2,Gm,hp.set b (.map es)⟩ (.map (I q)) w':=by
 have m':=m.bK hx hle hK hk h1
 have e':=e.bK hx hle hK
 have cz:C.le { C with K:=K' }:=⟨hle,fun _ _ h=>h,rfl,fun _ h=>h,fun _ h=>h⟩
 obtain⟨m2,e2,iM⟩:=m'.E0 e' hh hg (fun k hk=>by have:=(m.lt k q hk).1;omega) (Gp m.size hq) (qz.imp (C:=.bK K') (C':={ C with K:=K' }) ⟨fun _ _ _ h=>h,fun b r h=>by simp[ay.bK]at h⟩ hr)
 exact⟨_,ω,ay.le_trans cz iM,m2,e2,.map _ _ (by simp[ay.box]),by simp⟩
theorem Fu {C C':ay}{x:qa}{v:Value}(hp:ni x=Gk)(h:bD C x v):bD C' x v:=by
 cases x<;>simp only[ni,Gl]at hp<;>cases h<;>constructor
theorem av.zK (m:av P C ω w0 C0 hp w)(e:aj C ω w w0.heap.size env tmps){b q:Nat}{K':Nat→Nat→Option Value}{cells:Array Value}{t:TypeId}{cs:List (qa×Bool)}(hx:Ext w w')(hle:∀r o x,C.K r o=I x→K' r o=I x)(hK:∀r o,r<w.heap.size→K' r o=C.K r o)(hk:∀r o x,K' r o=I x→w'.cell? ⟨r,o,Gm⟩=I x)(h1:∀r o x,K' r o=I x→x.oneCell'=Gk)
  (hq:w.heap.size≤q) (hn:∀o,K' q o=Gm) (hh:hp[b]?=I .hole) (hg:w'.heap[q]?=I (.cells cells t (0,0))) (hl:cs.length≤cells.size)
  (hcs:∀(j:Nat) (c:qa×Bool),cs[j]?=I c→∃v,cells[j]?=I v∧v.oneCell'=Gk∧bD (({ C with K:=K' }:ay).box b q) c.1 v∧c.2=G2):
  av P (({ C with K:=K' }:ay).box b q) ω w0 C0 (hp.set b (.cells cs)) w'∧aj (({ C with K:=K' }:ay).box b q) ω w' w0.heap.size env tmps∧C.le (({ C with K:=K' }:ay).box b q):=by
 have m':=m.bK hx hle hK hk h1
 have hβ:=EY m hh
 have zF:C.le { C with K:=K' }:=⟨hle,fun _ _ h=>h,rfl,fun _ h=>h,fun _ h=>h⟩
 have iM:({ C with K:=K' }:ay).le (({ C with K:=K' }:ay).box b q):=ay.jM (C:={ C with K:=K' }) (r:=q) hβ
 have cz:=ay.le_trans zF iM
 have aX:b<hp.length:=(Hb.1 hh).1
 have Mw:∀k,C.β k≠I q:=fun k hk=>by have:=(m.lt k q hk).1;omega
 have cB:∀ℓ x v,aF C ω w w0.heap.size ℓ x v→aF (({ C with K:=K' }:ay).box b q) ω w' w0.heap.size ℓ x v:=fun ℓ x v h=>aF.grow (C:=C.box b q) hx hK (aF.box (.inl hq) h)
 refine⟨{ m' with apart:=?_,inj:=?_,lt:=?_,fresh:=?_,grown:=ay.le_trans m'.grown iM,box:=?_ },?_,cz⟩
 ·intro k r o hk
  simp only[ay.box]at hk
  split at hk
  ·cases hk;exact hn o
  ·exact m'.apart k r o hk
 ·intro k k' r hk eu
  simp only[ay.box]at hk eu
  split at hk<;>split at eu
  ·rename_i h1 h2;rw[h1,h2]
  ·cases hk;exact absurd eu (Mw k')
  ·cases eu;exact absurd hk (Mw k)
  ·exact m.inj k k' r hk eu
 ·intro k r hk
  rw[N4]
  simp only[ay.box]at hk
  split at hk
  ·rename_i h1;cases hk;subst h1;exact⟨(E4.1 hg).1,aX⟩
  ·exact m'.lt k r hk
 ·intro k r hk
  simp only[ay.box]at hk
  split at hk
  ·cases hk;exact .inr (.inl (Gp m.size hq))
  ·exact m.fresh k r hk
 ·intro k y r hy hk
  simp only[ay.box]at hk
  split at hk
  ·rename_i h1
   subst h1
   cases hk
   rw[List.getElem?_set_self aX]at hy
   cases hy
   refine⟨cells,t,hg,hl,fun j c hc=>?_⟩
   obtain⟨v,a1,a2,a3,a4⟩:=hcs j c hc
   exact⟨v,a1,a2,a3,fun h=>by rw[a4]at h;cases h⟩
  ·rename_i h1
   rw[Mr (Ne.symm h1)]at hy
   have h0:=m.box k y r hy hk
   cases y with
   |hole=>exact h0
   |cells cs=>
    obtain⟨vs,elem,g1,g2,g3⟩:=h0
    exact⟨vs,elem,hx.get g1,g2,fun j c hc=>let ⟨v,a,q,b,d⟩:=g3 j c hc; ⟨v,a,q,qp.mono cz b,fun e=>cB _ _ _ (d e)⟩⟩
   |map es=>obtain⟨bP,clock,g1,g2⟩:=h0;exact⟨bP,clock,hx.get g1,qz.mono cz g2⟩
   |iter s pos=>exact hx.get h0
   |loop l=>obtain⟨lp,g1,g2⟩:=h0;exact⟨lp,hx.get g1,q9.mono cz g2⟩
   |fB t e l=>obtain⟨p,v,g1,g2,g3,g4⟩:=h0;exact⟨p,v,hx.get g1,g2,g3,cB _ _ _ g4⟩
   |dead=>obtain⟨cs,t,g1⟩:=h0;exact⟨cs,t,hx.get g1⟩
   |vec sz bu xs=>
    have Mx:∀ {k:Nat} {c:Array Value} {t:TypeId},w.heap[k]?=I (.cells c t (0,0))→w'.heap[k]?=w.heap[k]?:=fun hk=>by rw[hx.get hk,hk]
    obtain⟨_,_,_,_,_,_,cs,t,g1⟩:=id h0
    refine dC.imp hle (fun _ h=>h) (fun _ h _=>h) (Mx g1) (fun q n cap k'=>⟨?_,cB _ _ _ k'⟩) h0
    obtain⟨_,_,_,_,_,⟨cells,elem,h5,_⟩,_⟩:=k'
    exact Mx h5
 ·exact fun s y hy=>let ⟨v,h1,h2,h3⟩:=e s y hy; ⟨v,h1,qp.mono cz h2,fun h=>cB _ _ _ (h3 h)⟩
theorem av.Fv (m:av P C ω w0 C0 hp w){b:Nat}{x:qn}(hh:hp[b]?=I .hole):av P C ω w0 C0 (hp.set b x) w:=by
 have hβ:=EY m hh
 refine { m with lt:=fun k r hk=>by rw[N4];exact m.lt k r hk,box:=fun k y r hy hk=>?_ }
 by_cases lh:k=b
 ·subst lh;rw[hβ]at hk;cases hk
 ·rw[Mr (Ne.symm lh)]at hy
  exact m.box k y r hy hk
theorem jbt (m:av P C ω w0 C0 hp w)(e:aj C ω w w0.heap.size env tmps){v:qa}{ow:Bool}{u:Value}{h0 r:Nat}{res:qq}{K':Nat→Nat→Option Value}(hx:Ext w w')(hle:∀r o x,C.K r o=I x→K' r o=I x)(hK:∀r o,r<w.heap.size→K' r o=C.K r o)(hk:∀r o x,K' r o=I x→w'.cell? ⟨r,o,Gm⟩=I x)(h1:∀r o x,K' r o=I x→x.oneCell'=Gk)
  (hr:bD (.bK K') v u) (ho:ow=Gk→∃ℓ ω',aF (.bK K') ω' w' w.heap.size ℓ v u) (ht:py h0 hp r v ow=I res):kf P C0 w0 C tmps d env res u w':=by
 unfold py at ht
 split at ht
 ·rename_i sz _
  split at ht
  ·rename_i h' hn
   have hv:=zx ht
   obtain⟨hh,rfl⟩:=li hn
   subst hv
   have cz:C.le { C with K:=K' }:=⟨hle,fun _ _ h=>h,rfl,fun _ h=>h,fun _ h=>h⟩
   refine⟨{ C with K:=K' },ω,cz,(m.bK hx hle hK hk h1).Fv hh,e.bK hx hle hK,qp.shift (C:=.bK K') (C':={ C with K:=K' }) 0 (fun _ _ _ h=>h) (fun b r aX=>by omega) hr (by rfl),fun h=>by simp at h⟩
  ·cases ht
 ·rename_i sz xs
  cases hb:(xs.flatMap qa.flat).all ni with
  |false=>rw[hb]at ht;cases ht
  |true=>
   rw[hb]at ht
   simp only[cT]at ht
   split at ht
   ·rename_i h' hn
    have hv:=zx ht
    obtain⟨hh,rfl⟩:=li hn
    subst hv
    obtain⟨ℓ,ω',ho⟩:=ho rfl
    cases hr with
    |iI sz a lO=>
     simp only[aF]at ho
     exact absurd ho.2.2.2.1 lO
    |list sz _ q o cap hl cL=>
     simp only[aF]at ho
     obtain⟨o1,o2,o3,_,o5,⟨cells,elem,o6,o7,_⟩,o8⟩:=ho
     subst o5
     have hq:w.heap.size≤q:=o2.resolve_right (fun h=>h)
     let K2:Nat→Nat→Option Value:=fun r o=>if r=q then Gm else K' r o
     have Fw:∀ {r o x},K2 r o=I x→K' r o=I x:=by
      intro r o x h
      simp only[K2]at h
      split at h
      ·cases h
      ·exact h
     have iM:∀r o x,C.K r o=I x→K2 r o=I x:=by
      intro r o x h
      have aX:r<w.heap.size:=by
       have:=m.know r o x h
       unfold World.cell? at this
       split at this
       ·rename_i c _ _ hc;exact(E4.1 hc).1
       ·cases this
      have bw:r≠q:=by omega
      simp only[K2,if_neg bw]
      exact hle r o x h
     have S8:∀r o,r<w.heap.size→K2 r o=C.K r o:=by
      intro r o aX
      have bw:r≠q:=by omega
      simp only[K2,if_neg bw]
      exact hK r o aX
     have hcells:=aY.cells cL
     have hlen:(xs.flatMap qa.flat).length≤cells.size:=by
      rcases Nat.eq_zero_or_pos (xs.flatMap qa.flat).length with h0|h0
      ·omega
      ·obtain⟨y,hy⟩:∃y,(xs.flatMap qa.flat)[(xs.flatMap qa.flat).length-1]?=I y:=⟨_,N2 (by omega)⟩
       obtain⟨v,hv,_⟩:=bY.get hcells hy
       have h3:=hk _ _ _ hv
       unfold World.cell? at h3
       rw[o6]at h3
       simp only[Hd,Gl,if_false]at h3
       have:=(E4.1 h3).1
       omega
     obtain⟨m2,e2,l2⟩:=m.zK e (b:=h0+r) (q:=q) (K':=K2) (cells:=cells) (t:=elem) (cs:=cellsOf (xs.flatMap qa.flat)) hx iM S8 (fun r o x h=>hk r o x (Fw h)) (fun r o x h=>h1 r o x (Fw h)) hq (fun o=>by simp[K2]) hh o6 (by rw[show(cellsOf (xs.flatMap qa.flat)).length=(xs.flatMap qa.flat).length by simp[cellsOf]];exact hlen) (by
      intro j c hc
      simp only[cellsOf,Mn,E6]at hc
      obtain⟨y,hy,rfl⟩:=hc
      obtain⟨v,hv,oO⟩:=bY.get hcells hy
      have h3:=hk _ _ _ hv
      unfold World.cell? at h3
      rw[o6]at h3
      simp only[Hd,Gl,if_false,N0]at h3
      exact⟨v,h3,h1 _ _ _ hv,Fu (If.1 hb y (Gq hy)) oO,rfl⟩)
     exact⟨_,ω,l2,m2,e2,.ms _ 0 _ q cap (by simp[ay.box]) hl,fun h=>by simp at h⟩
   ·cases ht
 ·cases ht
theorem q8r (m:av P C ω w0 C0 hp w){x x':qa}{v:Value}(hf:RT hp x=I x')(h:bD C x v)(hb:Abs.below 0 x'=Gk):bD (.bK (ki C hp w)) x' v:=by
 unfold RT at hf
 split at hf
 ·rename_i b len
  split at hf
  ·rename_i cs hcs
   cases hc:(Gn (len*(cs.length / len)) cs.length&&Mm 0 (cs.length / len)&&cs.all (fun c=>ni c.1))with
   |false=>
    rw[hc,cond_false]at hf
    cases hl:Gn len 0 with
    |false=>rw[hl]at hf;cases hf
    |true=>
     rw[hl]at hf
     have hl:=E2 hl
     subst hl
     simp only[cT,I.injEq]at hf
     subst hf
     obtain⟨r,cap,gX,hle,rfl⟩:=h.eo
     exact qp.list (C:=.bK (ki C hp w)) 8 [] r 0 cap (Nat.zero_le _) (.fe _ _ _)
   |true=>
    rw[hc]at hf
    simp only[cT,I.injEq]at hf
    subst hf
    simp only[En]at hc
    obtain⟨⟨c1,c2⟩,c3⟩:=hc
    have c1:=E2 c1
    have c2:0<cs.length / len:=by simpa using c2
    obtain⟨r,cap,gX,hle,rfl⟩:=h.eo
    obtain⟨vs,elem,k1,k2,k3⟩:=m.box b _ r (vf hcs) gX
    have cL:aY (.bK (ki C hp w)) r (cs.length / len) (lN (cs.length / len) len (cs.map (·.1))) 0:=by
     refine SZ c2 (by rw[R6];exact c1.symm) (fun x hx=>?_) fun j x hx=>?_
     ·obtain⟨c,hc,rfl⟩:=List.mem_map.1 hx
      have:=If.1 c3 c hc
      cases hq:c.1<;>rw[hq]at this<;>first|rfl|cases this
     ·rw[Mn,E6]at hx
      obtain⟨c,hc,rfl⟩:=hx
      obtain⟨u,q1,q2,q3,_⟩:=k3 j c hc
      have dB:w.cell? ⟨r,0+j,Gm⟩=I u:=by
       unfold World.cell?
       rw[k1]
       simp only[Hd,Gl,if_false,N0]
       exact q1
      exact⟨u,SW gX dB q2,Fu (If.1 c3 c (Gq hc)) q3⟩
    have:=qp.list (C:=.bK (ki C hp w)) (cs.length / len) (lN (cs.length / len) len (cs.map (·.1))) r 0 cap (by rw[Fj];exact hle) cL
    rw[Fj]at this
    exact this
  ·cases hf
 ·cases hf
  exact SX m h hb
theorem qt0 (m:av P C ω w0 C0 hp w):∀ {xs fq:List qa} {vs:List Value},wx hp xs=I fq→aM C xs vs→zw 0 fq=Gk→aM (.bK (ki C hp w)) fq vs
 | [],fq,vs,hf,h,_=>by
  simp only[wx,I.injEq]at hf
  subst hf
  cases h
  exact .nil
 |x::xs,fq,vs,hf,h,hb=>by
  simp only[wx]at hf
  split at hf
  ·rename_i y ys h1 h2
   cases hf
   cases h with
   |cons _ _ v vs hx h=>
    simp only[zw,En]at hb
    exact .cons _ _ _ _ (q8r m h1 hx hb.1) (qt0 m h2 h hb.2)
  ·cases hf
theorem qx3 {C C':ay}{x:qa}{v:Value}(hp:wy x=Gk)(h:bD C x v):bD C' x v:=by
 cases x with
 |agg cs=>
  obtain⟨vs,rfl,hl⟩:=h.dS
  refine .agg _ _ ?_
  simp only[wy]at hp
  clear h
  induction cs generalizing vs with
  |nil=>cases hl;exact .nil
  |cons c cs ih=>
   cases hl with
   |cons _ _ v vs hx hl=>
    simp only[Sy,En]at hp
    exact .cons _ _ _ _ (Fu hp.1 hx) (ih hp.2 vs hl)
 |_=>exact Fu hp h
theorem jhg {C C':ay}{x:qa}{v:Value}(h:bD C x v):bD C' (CV x) v:=by
 unfold CV
 cases hp:wy x with
 |true=>exact qx3 hp h
 |false=>exact .any _
theorem q0t {C C':ay}:∀ {xs:List qa} {vs:List Value},aM C xs vs→aM C' (xs.map CV) vs
 | [],_,h=>by cases h;exact .nil
 |x::xs,_,h=>by
  cases h with
  |cons _ _ v vs hx h=>exact .cons _ _ _ _ (jhg hx) (q0t h)
open Classical in
theorem jhv (m:av P C ω w0 C0 hp w)(e:aj C ω w w0.heap.size env tmps){v v':qa}{ow Fx:Bool}{u:Value}{K':Nat→Nat→Option Value}(hx:Ext w w')(hle:∀r o x,ki C hp w r o=I x→K' r o=I x)(hK:∀r o,r<w.heap.size→K' r o=ki C hp w r o)(hk:∀r o x,K' r o=I x→w'.cell? ⟨r,o,Gm⟩=I x)(h1:∀r o x,K' r o=I x→x.oneCell'=Gk)
  (hr:bD (.bK K') v u) (ho:ow=Gk→∃ℓ ω',aF (.bK K') ω' w' w.heap.size ℓ v u) (ht:L0 v ow=I (v',Fx)):kf P C0 w0 C tmps d env ⟨v',Fx,Gm,hp⟩ u w':=by
 let K2:Nat→Nat→Option Value:=fun r o=>if Hid C hp r then Gm else K' r o
 have Fw:∀ {r o x},K2 r o=I x→K' r o=I x:=by
  intro r o x h
  simp only[K2]at h
  split at h
  ·cases h
  ·exact h
 have iM:∀r o x,C.K r o=I x→K2 r o=I x:=by
  intro r o x h
  have hn:¬Hid C hp r:=by
   intro hh
   rw[SV m hh o]at h;cases h
  simp only[K2,if_neg hn]
  exact hle r o x (Fi m h)
 have S8:∀r o,r<w.heap.size→K2 r o=C.K r o:=by
  intro r o aX
  by_cases hb:Hid C hp r
  ·simp only[K2,if_pos hb]
   exact(SV m hb o).symm
  ·simp only[K2,if_neg hb]
   rw[hK r o aX]
   unfold ki
   rw[if_neg hb]
 have fin:∀(kK:lM v'=Gk) (iW:bD (.bK K2) v' u) (wP:Fx=Gk→∃ℓ ω',aF (.bK K2) ω' w' w.heap.size ℓ v' u),kf P C0 w0 C tmps d env ⟨v',Fx,Gm,hp⟩ u w':=fun kK iW wP=>
  q5b m e hx iM S8 (fun r o x h=>hk r o x (Fw h)) (fun r o x h=>h1 r o x (Fw h)) kK iW wP
 have gC:∀y,ni y=Gk→Abs.below 0 y=Gk:=fun y hy=>by cases y<;>first|rfl|cases hy
 have pS:∀ys:List qa,ys.all ni=Gk→zw 0 ys=Gk:=by
  intro ys
  induction ys with
  |nil=>intro _;rfl
  |cons y ys ih=>
   intro h
   simp only[Sy,En]at h
   simp only[zw,En]
   exact⟨gC y h.1,ih h.2⟩
 have nz:∀y,wy y=Gk→Abs.below 0 y=Gk:=fun y hy=>by
  cases y with
  |agg cs=>simp only[Abs.below];exact pS cs hy
  |_=>exact gC _ hy
 unfold L0 at ht
 split at ht
 ·rename_i sz xs
  cases hb:(xs.flatMap qa.flat).all ni with
  |false=>rw[hb]at ht;cases ht
  |true=>
   rw[hb]at ht
   simp only[cT,I.injEq,Prod.mk.injEq]at ht
   obtain⟨rfl,rfl⟩:=ht
   obtain⟨ℓ,ω',ho⟩:=ho rfl
   cases hr with
   |iI sz a lO=>
    simp only[aF]at ho
    exact absurd ho.2.2.2.1 lO
   |list sz _ q o cap hl cL=>
    simp only[aF]at ho
    obtain⟨o1,o2,o3,o4,o5,o6,o8⟩:=ho
    have hq:w.heap.size≤q:=o2.resolve_right (fun h=>h)
    have Dg:¬Hid C hp q:=by
     intro hh
     have:=jqm m hh
     omega
    have hKq:∀o,K2 q o=K' q o:=fun o=>by simp only[K2,if_neg Dg]
    have hcells:=aY.cells cL
    have pI:aY (.bK K2) q sz xs o:=by
     refine aY.ej (SY fun j x hx=>?_) (aY.sized cL)
     obtain⟨u,hu,hxu⟩:=bY.get hcells hx
     exact⟨u,by rw[show(ay.bK K2).K=K2 from rfl,hKq];exact hu,Fu (If.1 hb x (Gq hx)) hxu⟩
    refine fin ?_ (.list sz _ q o cap hl pI) fun _=>⟨ℓ,ω',?_⟩
    ·show lM _=Gk
     unfold lM
     have iK:∀ys:List qa,(ys.flatMap qa.flat).all ni=Gk→zw 0 ys=Gk:=by
      intro ys
      induction ys with
      |nil=>intro _;rfl
      |cons y ys ih=>
       intro h
       rw[Sn,List.all_append,En]at h
       simp only[zw,En]
       exact⟨by rw[←L8];exact pS _ h.1,ih h.2⟩
     simp only[Abs.below]
     exact iK xs hb
    ·simp only[aF]
     exact⟨o1,o2,o3,o4,o5,o6,fun o' wP=>by rw[show(ay.bK K2).K=K2 from rfl,hKq];exact o8 o' wP⟩
 ·simp only[I.injEq,Prod.mk.injEq]at ht
  obtain⟨rfl,rfl⟩:=ht
  refine fin rfl ?_ (fun h=>by cases h)
  cases hr
  exact .iH _
 ·rename_i vs _
  simp only[I.injEq,Prod.mk.injEq]at ht
  obtain⟨rfl,rfl⟩:=ht
  obtain⟨us,rfl,hl⟩:=hr.nw
  refine fin ?_ (.aC _ _ (q0t hl)) (fun h=>by cases h)
  show Abs.below 0 _=Gk
  simp only[Abs.below]
  have:∀ys:List qa,zw 0 (ys.map CV)=Gk:=by
   intro ys
   induction ys with
   |nil=>rfl
   |cons y ys ih=>
    simp only[Sz,zw,En]
    refine⟨?_,ih⟩
    unfold CV
    cases hp:wy y with
    |true=>exact nz y hp
    |false=>rfl
  exact this _
 ·cases hb:wy v with
  |false=>rw[hb]at ht;cases ht
  |true=>
   rw[hb]at ht
   simp only[cT,I.injEq,Prod.mk.injEq]at ht
   obtain⟨rfl,rfl⟩:=ht
   exact fin (nz v hb) (qx3 hb hr) (fun h=>by cases h)
def ay.shared (C:ay)(ω:Nat→Option Loc)(w0:World):ay:={ C with W:=fun r=>(∃b j,ω r=I (.cell b j))∧(w0.heap.size≤r∨C.W r) }
def pT (ω:Nat→Option Loc):Nat→Option Loc:=fun r=>match ω r with
 |some (.cell b j)=>I (.cell b j)
 |_=>Gm
theorem aF.shared {b j:Nat}{x:qa}{v:Value}(ho:aF C ω w w0.heap.size (.cell b j) x v):aF (C.shared ω w0) (pT ω) w w.heap.size (.cell b j) x v:=by
 unfold aF at *
 split at ho
 ·obtain⟨g1,g2,g3⟩:=ho
  exact⟨by simp[pT,g1],.inr ⟨⟨b,j,g1⟩,g2⟩,g3⟩
 ·obtain⟨g1,g2,g3⟩:=ho
  exact⟨by simp[pT,g1],.inr ⟨⟨b,j,g1⟩,g2⟩,g3⟩
 ·trivial
theorem S9 (m:av P C ω w0 C0 hp w):av P (C.shared ω w0) (pT ω) w (C.shared ω w0) hp w where
 base:=⟨m.tabs,fun g hg=>by
  obtain⟨h1,h2⟩:=m.base.2 g hg
  have aX:=(m.base.1 g hg).1
  refine⟨fun b hb=>?_,fun h=>?_⟩
  ·rcases m.fresh b g hb with h|h|h
   ·exact h1 b h
   ·omega
   ·exact h2 h
  ·rcases h.2 with h|h
   ·omega
   ·rw[m.grown.w]at h;exact h2 h⟩
 know:=m.know
 cQ:=m.cQ
 apart:=m.apart
 inj:=m.inj
 lt:=m.lt
 size:=Nat.le_refl _
 frame _ _ _ _:=rfl
 eK:=m.eK
 os:=rfl
 output:=rfl
 fresh _ _ h:=.inl h
 grown:=ay.le_refl _
 old _ _ _ _:=rfl
 box b x r hx hb:=bn.imp (C:=C) (C':=C.shared ω w0) ⟨fun _ _ _ h=>h,fun _ _ h=>h⟩ rfl (fun _ _ _ ho=>ho.shared) (m.box b x r hx hb)
 gV:=m.gV
def mH (ω ω1:Nat→Option Loc)(n:Nat):Nat→Option Loc:=fun r=>match decide (r<n),ω r with
 |true,I (.slot s)=>I (.slot s)
 |_,_=>pT ω1 r
def ay.back (C1 C:ay):ay:={ C1 with W:=C.W }
theorem My (hle:(C.shared ω w0).le C1):C.le (C1.back C):=⟨hle.k,hle.b,rfl,hle.d,hle.t⟩
theorem aF.pU {s:Nat}{x:qa}{v:Value}(m1:av P C1 ω1 w (C.shared ω w0) h1 w')(ho:aF C ω w w0.heap.size (.slot s) x v):aF (C1.back C) (mH ω ω1 w.heap.size) w' w0.heap.size (.slot s) x v:=by
 unfold aF at *
 split at ho
 ·rename_i ad len cap
  obtain⟨g1,g2,g3,g4,g8,⟨cells,elem,g5,g6⟩,g7⟩:=ho
  have aX:=(E4.1 g5).1
  have zL:¬(C.shared ω w0).W ad.block:=fun h=>by
   obtain⟨⟨b,j,h⟩,_⟩:=h
   rw[g1]at h;cases h
  refine⟨by simp[mH,aX,g1],g2,fun b hb=>?_,g4,g8,⟨cells,elem,?_,g6⟩,fun o ho=>?_⟩
  ·rcases m1.fresh b _ hb with h|h|h
   ·exact g3 b h
   ·omega
   ·exact zL h
  ·rw[m1.frame _ aX g3 zL];exact g5
  ·have:=m1.old _ o aX zL
   show C1.K _ o=Gm
   rw[this];exact g7 o ho
 ·rename_i ad
  obtain⟨g1,g2,g3,g4,g8,⟨cells,elem,g5,g6⟩,g7⟩:=ho
  have aX:=(E4.1 g5).1
  have zL:¬(C.shared ω w0).W ad.block:=fun h=>by
   obtain⟨⟨b,j,h⟩,_⟩:=h
   rw[g1]at h;cases h
  refine⟨by simp[mH,aX,g1],g2,fun b hb=>?_,g4,g8,⟨cells,elem,?_,g6⟩,fun o ho=>?_⟩
  ·rcases m1.fresh b _ hb with h|h|h
   ·exact g3 b h
   ·omega
   ·exact zL h
  ·rw[m1.frame _ aX g3 zL];exact g5
  ·have:=m1.old _ o aX zL
   show C1.K _ o=Gm
   rw[this];exact g7 o ho
 ·trivial
theorem aF.pV {b j:Nat}{x:qa}{v:Value}(m:av P C ω w0 C0 hp w)(hW:C1.W=(C.shared ω w0).W)(ho:aF C1 ω1 w' w.heap.size (.cell b j) x v):aF (C1.back C) (mH ω ω1 w.heap.size) w' w0.heap.size (.cell b j) x v:=by
 unfold aF at *
 split at ho
 ·rename_i ad len cap
  obtain⟨g1,g2,g3⟩:=ho
  rw[hW]at g2
  refine⟨?_,?_,g3⟩
  ·unfold mH
   split
   ·rename_i s aX hs
    have aX:=of_decide_eq_true aX
    rcases g2 with g2|⟨⟨b',j',g2⟩,_⟩
    ·omega
    ·rw[hs]at g2;cases g2
   ·simp[pT,g1]
  ·rcases g2 with g2|⟨_,g2⟩
   ·exact .inl (Gp m.size g2)
   ·exact g2
 ·rename_i ad
  obtain⟨g1,g2,g3⟩:=ho
  rw[hW]at g2
  refine⟨?_,?_,g3⟩
  ·unfold mH
   split
   ·rename_i s aX hs
    have aX:=of_decide_eq_true aX
    rcases g2 with g2|⟨⟨b',j',g2⟩,_⟩
    ·omega
    ·rw[hs]at g2;cases g2
   ·simp[pT,g1]
  ·rcases g2 with g2|⟨_,g2⟩
   ·exact .inl (Gp m.size g2)
   ·exact g2
 ·trivial
theorem quc (m:av P C ω w0 C0 hp w)(e:aj C ω w w0.heap.size env tmps)(m1:av P C1 ω1 w (C.shared ω w0) h1 w')(hle:(C.shared ω w0).le C1):
  av P (C1.back C) (mH ω ω1 w.heap.size) w0 C0 h1 w'∧aj (C1.back C) (mH ω ω1 w.heap.size) w' w0.heap.size env tmps:=by
 have hsh:∀r,r<w0.heap.size→¬C0.W r→¬(C.shared ω w0).W r:=fun r hr hw h=>by
  rcases h.2 with h|h
  ·omega
  ·rw[m.grown.w]at h;exact hw h
 constructor
 ·refine { base:=m.base,know:=m1.know,cQ:=m1.cQ,apart:=m1.apart,inj:=m1.inj,lt:=m1.lt,size:=Gp m.size m1.size,frame:=?_,eK:=m1.eK,os:=m1.os.trans m.os,output:=m1.output.trans m.output,fresh:=?_,grown:=ay.le_trans m.grown (My hle),old:=?_,box:=?_,gV:=m1.gV }
  ·intro r hr hn hw
   have jP:∀b,C.β b≠I r:=fun b hb=>by
    rcases m.fresh b r hb with h|h|h
    ·exact hn b h
    ·omega
    ·exact hw h
   rw[m1.frame r (H7 hr m.size) jP (hsh r hr hw)]
   exact m.frame r hr hn hw
  ·intro b r hb
   rcases m1.fresh b r hb with h|h|h
   ·exact m.fresh b r h
   ·exact .inr (.inl (Gp m.size h))
   ·exact .inr (h.2.imp id (fun h=>by rw[←m.grown.w];exact h))
  ·intro r o hr hw
   show C1.K r o=_
   rw[m1.old r o (H7 hr m.size) (hsh r hr hw)]
   exact m.old r o hr hw
  ·intro b x r hx hb
   exact bn.imp (C:=C1) (C':=C1.back C) ⟨fun _ _ _ h=>h,fun _ _ h=>h⟩ rfl (fun _ _ _ ho=>ho.pV m hle.w) (m1.box b x r hx hb)
 ·exact fun s x hs=>let ⟨v,k1,k2,k3⟩:=e s x hs; ⟨v,k1,qp.mono (My hle) k2,fun h=>(k3 h).pU m1⟩
theorem bD.back {x:qa}{v:Value}(h:bD C1 x v):bD (C1.back C) x v:=qp.imp (C:=C1) (C':=C1.back C) ⟨fun _ _ _ h=>h,fun _ _ h=>h⟩ h
theorem qt9 (m:av P C ω w0 C0 hp w)(e:aj C ω w w0.heap.size env tmps)(m1:av P C1 ω1 w (C.shared ω w0) h1 w')(hle:(C.shared ω w0).le C1){v:qa}{ow:Bool}{u:Value}(hr:bD C1 v u)(ho:ow=Gk→aF C1 ω1 w' w.heap.size (.slot 0) v u):
  kf P C0 w0 C tmps d env ⟨v,ow,Gm,yq hp.length v h1⟩ u w':=by
 have hC:∀b r,C.β b=I r→b<hp.length:=fun b r h=>(m.lt b r h).2
 have cz:=My hle
 have iW:bD (C1.back C) v u:=hr.back
 -- the result's ownership first
 have step:∃ω',av P (C1.back C) ω' w0 C0 h1 w'∧aj (C1.back C) ω' w' w0.heap.size env tmps∧(ow=Gk→aF (C1.back C) ω' w' w0.heap.size d v u):=by
  obtain⟨m2,e2⟩:=quc m e m1 hle
  cases ow with
  |false=>exact⟨_,m2,e2,by simp⟩
  |true=>
   by_cases hk:∃(n:Bool) (sz:Nat) (xs:List qa) (ad:Addr) (len cap:Nat),v=.list n sz xs∧u=.slice (I ad) len cap
   ·obtain⟨n,sz,xs,ad,len,cap,rfl,rfl⟩:=hk
    obtain⟨g1,g2,g3,g4⟩:=ho rfl
    rw[hle.w]at g2
    have ig:mH ω ω1 w.heap.size ad.block=Gm:=by
     unfold mH
     split
     ·rename_i s aX hs
      have aX:=of_decide_eq_true aX
      rcases g2 with g2|⟨⟨b',j',g2⟩,_⟩
      ·omega
      ·rw[hs]at g2;cases g2
     ·simp[pT,g1]
    refine⟨cr (mH ω ω1 w.heap.size) ad.block d,m2.cr _ _ (by simp[ig]),?_,fun _=>?_⟩
    ·exact fun s x hs=>let ⟨v,k1,k2,k3⟩:=e2 s x hs; ⟨v,k1,k2,fun h=>(k3 h).other (.inl (by simp[ig]))⟩
    ·refine⟨by simp[cr],?_,g3,g4⟩
     rcases g2 with g2|⟨_,g2⟩
     ·exact .inl (Gp m.size g2)
     ·exact g2
   by_cases cV:∃(n:Nat) (ad:Addr),v=.cE n∧u=.pointer (I ad)
   ·obtain⟨n,ad,rfl,rfl⟩:=cV
    obtain⟨g1,g2,g3,g4⟩:=ho rfl
    rw[hle.w]at g2
    have ig:mH ω ω1 w.heap.size ad.block=Gm:=by
     unfold mH
     split
     ·rename_i s aX hs
      have aX:=of_decide_eq_true aX
      rcases g2 with g2|⟨⟨b',j',g2⟩,_⟩
      ·omega
      ·rw[hs]at g2;cases g2
     ·simp[pT,g1]
    refine⟨cr (mH ω ω1 w.heap.size) ad.block d,m2.cr _ _ (by simp[ig]),?_,fun _=>?_⟩
    ·exact fun s x hs=>let ⟨v,k1,k2,k3⟩:=e2 s x hs; ⟨v,k1,k2,fun h=>(k3 h).other (.inl (by simp[ig]))⟩
    ·refine⟨by simp[cr],?_,g3,g4⟩
     rcases g2 with g2|⟨_,g2⟩
     ·exact .inl (Gp m.size g2)
     ·exact g2
   ·refine⟨_,m2,e2,fun h=>?_⟩
    unfold aF
    split
    ·exact absurd ⟨_,_,_,_,_,_,rfl,rfl⟩ hk
    ·exact absurd ⟨_,_,rfl,rfl⟩ cV
    ·trivial
 obtain⟨ω',m2,e2,o2⟩:=step
 unfold yq
 cases hb:Ha h1.length hp.length with
 |true=>simp only[cT];exact⟨_,ω',cz,m2,e2,iW,o2⟩
 |false=>
  simp only[cond_false]
  cases lm:(below hp.length v&&kh hp.length (h1.take hp.length))with
  |false=>simp only[cond_false];exact⟨_,ω',cz,m2,e2,iW,o2⟩
  |true=>
   simp only[cT]
   simp only[En]at lm
   have aX:hp.length≤h1.length:=by
    rcases Nat.lt_or_ge hp.length h1.length with h|h
    ·omega
    ·rw[Nat.ble_eq_true_of_le h]at hb;cases hb
   have h0:∀b r,C0.β b=I r→b<hp.length:=fun b r h=>hC b r (m.grown.2 b r h)
   have m3:=m2.gc aX lm.2 h0
   refine⟨(C1.back C).cut hp.length,ω',ay.ie cz hC,m3,?_,bD.cut iW lm.1,fun h=>(o2 h).cut _⟩
   intro s x hs
   obtain⟨y,k1,k2,k3⟩:=e s x hs
   obtain⟨y',j1,j2,j3⟩:=e2 s x hs
   rw[k1]at j1
   cases j1
   exact⟨y,k1,qp.mono (ay.ie cz hC) k2,fun h=>(j3 h).cut _⟩
theorem aW.eQ {e:Env}(h:aW C e tmps):aj C ω w B (eQ e) tmps:=by
 intro s x hx
 have key:∀ {e:Env} {x:qa×Bool},yd s (Abs.eQ e)=I x→∃o,yd s e=I (x.1,o)∧x.2=G2:=by
  intro e
  induction e with
  |nil=>intro x h;simp[Abs.eQ,yd]at h
  |cons y e ih=>
   intro x h
   obtain⟨t,v,o⟩:=y
   simp only[Abs.eQ,Sz,yd]at h ⊢
   cases hb:Gn t s with
   |true=>simp only[hb,cT,I.injEq]at h ⊢;subst h;exact⟨o,rfl,rfl⟩
   |false=>simp only[hb,cond_false]at h ⊢;exact ih h
 obtain⟨o,h1,h2⟩:=key hx
 obtain⟨v,h3,h4⟩:=h s _ h1
 exact⟨v,h3,h4,by simp[h2]⟩
theorem qtx:∀ {ts:List Nat} {vs:List qa} {us:List Value} {e e':Env} {tmps:Array Value},uY e ts vs=I e'→aM C vs us→(∀t∈ts,t<tmps.size)→aj C ω w B e tmps →
  ts.length=us.length∧((ts.zip us).foldl (fun(tmps:Array Value) (x:Nat×Value)=>tmps.setIfInBounds x.1 x.2) tmps).size=tmps.size∧aj C ω w B e' ((ts.zip us).foldl (fun(tmps:Array Value) (x:Nat×Value)=>tmps.setIfInBounds x.1 x.2) tmps)
 | [],[],us,e,e',tmps,h,hr,_,he=>by
  simp only[uY,I.injEq]at h
  subst h
  cases hr
  exact⟨rfl,rfl,he⟩
 |t::ts,v::vs,us,e,e',tmps,h,hr,hf,he=>by
  simp only[uY]at h
  cases hr with
  |cons _ _ u us hu hr=>
   have Mz:aj C ω w B ((t,v,G2)::e) (tmps.setIfInBounds t u):=by
    intro s x hx
    simp only[yd]at hx
    cases hb:Gn t s with
    |true=>
     have:=E2 hb
     subst this
     simp only[hb,cT,I.injEq]at hx
     subst hx
     exact⟨u,by simp[hf t (by simp)],hu,by simp⟩
    |false=>
     simp only[hb,cond_false]at hx
     obtain⟨y,h1,h2,h3⟩:=he s x hx
     refine⟨y,?_,h2,h3⟩
     rw[Array.getElem?_setIfInBounds_ne (fun hh=>by subst hh;simp at hb)]
     exact h1
   have ih:=qtx h hr (tmps:=tmps.setIfInBounds t u) (fun t' EP=>by simpa using hf t' (by simp[EP])) Mz
   refine⟨by simp[ih.1],?_,?_⟩
   ·simp only[Sg,St];rw[ih.2.1];simp
   ·simp only[Sg,St];exact ih.2.2
 | [],_::_,_,_,_,_,h,_,_,_=>by simp[uY]at h
 |_::_,[],_,_,_,_,h,_,_,_=>by simp[uY]at h
theorem MA {b r:Nat}{l:jp}(m:av P C ω w0 C0 hp w)(hb:y5 hp b=I (.loop l))(hr:C.β b=I r):∃lp,w.heap[r]?=I (.loop lp)∧q9 P C l lp:=
 m.box b _ r hb hr
theorem Fy {b r:Nat}{l':jp}{lp zM:Loop}(m:av P C ω w0 C0 hp w)(hr:C.β b=I r)(hg:w.heap[r]?=I (.loop lp))(hl:q9 P C l' zM):
  (setObj r (.loop zM)).run P w=.ok () (jB w r (.loop zM))∧jk w (jB w r (.loop zM)) r∧av P C ω w0 C0 (hp.set b (.loop l')) (jB w r (.loop zM)):=by
 have aX:=(E4.1 hg).1
 have hu:jk w (jB w r (.loop zM)) r:=Dc aX (by simp)
 exact⟨wL hg (by simp),hu,m.du hu hr _ (fun _ _ _ _ _ h=>h) ⟨zM,E5 aX,hl⟩⟩
theorem jfb (hx:b9 P xc)(m:av P C ω w0 C0 hp w)(e:aj C ω w w0.heap.size env tmps){b r:Nat}(hr:C.β b=I r){args:List qa}{us:List Value}(ha:aM C args us){v:qa}{h':j8}(hy:jG xc b args hp=I (v,h')):
  ∃f nA assign body,(Instr.yield r ⟨us⟩).run P w=.ok (.round r f nA assign body) w∧RoundIn Fence.wide 0 P r f nA assign body w fun ee w'=>∃u,ee=.returned u∧kf P C0 w0 C tmps d env ⟨v,G2,Gm,h'⟩ u w':=by
 unfold jG at hy
 split at hy
 ·rename_i l hl
  split at hy
  ·rename_i e0 hpend bm
   obtain⟨lp,hg,lr⟩:=MA m hl hr
   have ms:=S9 m
   have gy:aM (C.shared ω w0) args us:=qp.imp (C:=C) (C':=C.shared ω w0) ⟨fun _ _ _ h=>h,fun _ _ h=>h⟩ ha
   have hel:aj (C.shared ω w0) (pT ω) w w.heap.size (eQ l.env) lp.tmps:=aW.eQ (fun s x hs=>let ⟨v,h1,h2⟩:=lr.env s x hs; ⟨v,h1,qp.imp (C:=C) (C':=C.shared ω w0) ⟨fun _ _ _ h=>h,fun _ _ h=>h⟩ h2⟩)
   obtain⟨hlen,cD,he0⟩:=qtx bm gy lr.fits hel
   have pE:(lp.params.zip (⟨us⟩:Array Value)).foldl (fun(tmps:Array Value) (x:Nat×Value)=>tmps.setIfInBounds x.1 x.2) lp.tmps=(l.params.zip us).foldl (fun(tmps:Array Value) (x:Nat×Value)=>tmps.setIfInBounds x.1 x.2) lp.tmps:=by
    rw[←Array.foldl_toList,Array.toList_zip,lr.params]
   have Ta:lp.params.size=us.length:=by rw[←Array.length_toList,lr.params];exact hlen
   refine⟨lp.fn,(l.params.zip us).foldl (fun(tmps:Array Value) (x:Nat×Value)=>tmps.setIfInBounds x.1 x.2) lp.tmps,lp.assign,lp.body,?_,?_⟩
   ·have zN:(Instr.getLoop r).run P w=.ok lp w:=by simp[Instr.getLoop,oN hg (by simp)]
    have bw:¬((⟨us⟩:Array Value).size≠lp.params.size):=by simp[Ta]
    simp only[Instr.yield,Sem.run_bind,zN,Result.andThen_ok,bw,if_false,Sem.run_pure,Sem.run_ite]
    rw[show((lp.params.zip (⟨us⟩:Array Value)).foldl (fun tmps (x:Nat×Value)=>match x with|(t,a)=>tmps.setIfInBounds t a) lp.tmps)=_ from pE]
   ·refine roundIn_of_wpIn trivial ?_
    split at hy
    ·rename_i st bS
     split at hy
     ·rename_i l1 hZ
      cases iZ:l1.pending.isNone with
      |false=>simp[iZ]at hy
      |true=>
       simp only[iZ,cT]at hy
       have Fz:l1.pending=Gm:=by simpa using iZ
       split at hy
       ·rename_i x bJ gN
        split at hy
        ·rename_i l2 pC
         cases hy
         refine wpIn_mono (hx (I r) lp.tmps.size lp.assign l.assign _ _ _ lr.assign (fun _=>lr.nr.1) bS (C.shared ω w0) (pT ω) w (C.shared ω w0) { tmps:=_,defers:=[] } w ms he0 cD Marks.nil) ?_
         rintro ee a1 w1 ⟨rfl,q1,C1,ω1,q2,q3,q4,q5⟩
         have vh:=q2.b b r hr
         obtain⟨MB,hg1,Tb⟩:=MA q4 hZ vh
         have wQ:MB.state=.ready:=by rw[Tb.state,Fz]
         have Tc:q9 P C1 { l1 with pending:=I .normal } { MB with state:=.busy }:={ Tb with state:=rfl,pending:=by rw[Tb.pending,Fz] }
         obtain⟨FA,E1,m1⟩:=Fy q4 vh hg1 Tc
         have gX:(Instr.beginRound r).run P w1=.ok () (jB w1 r (.loop { MB with state:=.busy })):=by
          have zN:(Instr.getLoop r).run P w1=.ok MB w1:=by simp[Instr.getLoop,oN hg1 (by simp)]
          simp only[Instr.beginRound,Sem.run_bind,zN,Result.andThen_ok,FA,wQ,Sem.run_pure]
         refine⟨_,gX,?_⟩
         refine wpIn_mono (hx (I r) lp.tmps.size lp.body l.body _ _ _ lr.body (fun _=>lr.nr.2) gN C1 ω1 w (C.shared ω w0) a1 _ m1 (q5.de E1 vh) q1 q3) ?_
         rintro ee a2 w2 ⟨rfl,p1,C2,ω2,p2,p3,p4,p5⟩
         have pW:=p2.b b r vh
         obtain⟨lq,pX,uj⟩:=MA p4 pC pW
         have zO:(Instr.getLoop r).run P w2=.ok lq w2:=by simp[Instr.getLoop,oN pX (by simp)]
         have fin:∀(Td:LoopState) (pd:Option Code) (ap:Option qo) (bb:Bool),q9 P C2 { l2 with pending:=ap } { lq with state:=Td,pending:=pd } →
           kf P C0 w0 C tmps d env ⟨.bool bb,G2,Gm,yq hp.length (.bool Gk) (bJ.heap.set b (.loop { l2 with pending:=ap }))⟩ (.bool bb) (jB w2 r (.loop { lq with state:=Td,pending:=pd })):=by
          intro Td pd ap bb uk
          obtain⟨jC,hu2,m2⟩:=Fy p4 pW pX uk
          have:=qt9 (d:=d) (v:=.bool bb) (ow:=false) (u:=.bool bb) m e m2 (ay.le_trans q2 p2) (.bool bb) (by simp)
          exact this
         cases x with
         |normal=>
          have uk:q9 P C2 { l2 with pending:=Gm } { lq with state:=.ready,pending:=Gm }:={ uj with state:=rfl,pending:=rfl }
          obtain⟨jC,_,_⟩:=Fy p4 pW pX uk
          exact⟨.bool Gk,_,by simp only[Instr.endRound,Sem.run_bind,zO,Result.andThen_ok,Option.isNone_none,if_true,jC,Sem.run_pure],_,rfl,fin _ _ _ Gk uk⟩
         |ret=>
          have uk:q9 P C2 { l2 with pending:=I .ret } { lq with state:=.done,pending:=I .ret }:={ uj with state:=rfl,pending:=rfl }
          obtain⟨jC,_,_⟩:=Fy p4 pW pX uk
          exact⟨.bool G2,_,by simp only[Instr.endRound,Sem.run_bind,zO,Result.andThen_ok,Sk,Gl,if_false,jC,Sem.run_pure],_,rfl,fin _ _ _ G2 uk⟩
         |exit id=>
          have uk:q9 P C2 { l2 with pending:=I (.exit id) } { lq with state:=.done,pending:=I (.exit id) }:={ uj with state:=rfl,pending:=rfl }
          obtain⟨jC,_,_⟩:=Fy p4 pW pX uk
          exact⟨.bool G2,_,by simp only[Instr.endRound,Sem.run_bind,zO,Result.andThen_ok,Sk,Gl,if_false,jC,Sem.run_pure],_,rfl,fin _ _ _ G2 uk⟩
        ·cases hy
       ·cases hy
     ·cases hy
    ·cases hy
  ·cases hy
 ·cases hy
theorem jd6 {h:qb}{md:jd}{r h0:Nat}{dst:Option Nat}{al:Option (List Nat)}{cn:qw}{res:qq}(ec:qx P p)(hx:b9 P xc)(m:av P C ω w0 C0 hp w)(e:aj C ω w w0.heap.size env a.tmps){c:Call}(ho:o.op=.call c){f:Operand}(nU:c.callee=.value f)
  (hc:yN P h md r dst c=I cn) (hs:za p xc h0 al env hp cn=I res):dR P C C0 w0 a d env o w res:=by
 unfold yN at hc
 rw[nU]at hc
 simp only[]at hc
 split at hc
 ·rename_i f' args' h1 h2
  cases hc
  generalize md.at r=md at hs
  simp only[za,iB]at hs
  split at hs
  ·rename_i k first captured vs e1 e2
   have wR:=zu e.bT h1 e1
   have Te:=C8 e.bT h2 e2
   generalize gB:a.eval f=fv at wR
   cases wR with
   |fn g g' _ _ as bs hf ha hb=>
    simp only[eS]at hf
    subst hf
    have hall:aM C (first++vs++captured) (as++c.args.toList.map a.eval++bs):=aM.append (aM.append ha Te) hb
    have ij:Enters P k→(execOp a.eval o).run P w=.ok (.enter k ⟨as++c.args.toList.map a.eval++bs⟩) w:=by
     intro ln
     have dM:(⟨as⟩:Array Value)++Array.map a.eval c.args++(⟨bs⟩:Array Value)=⟨as++c.args.toList.map a.eval++bs⟩:=by
      apply Sd;simp
     simp[execOp,ho,resolve,nU,gB,Deferred.ofValue,invoke,dM,qsk ln]
    cases md with
    |fa rk=>
     simp only[]at hs
     cases ua:(first++vs++captured).isEmpty with
     |false=>
      rw[ua]at hs
      simp only[cond_false]at hs
      cases kH:zw 0 (first++vs++captured)with
      |false=>rw[kH]at hs;cases hs
      |true=>
       rw[kH]at hs
       simp only[cT]at hs
       split at hs
       ·rename_i v ow pY
        obtain⟨ln,kK,pZ⟩:=Mv ec hx pY kH
        have lu:aM (.bK C.K) (first++vs++captured) (as++c.args.toList.map a.eval++bs):=
         qp.shift (C:=C) (C':=.bK C.K) 0 (fun _ _ _ h=>h) (fun b r aX=>by omega) hall kH
        refine .inr (.inr (.inl ⟨k,_,ij ln,CallsIn.mono (pZ C.K w _ m.tabs m.know m.cQ lu) ?_⟩))
        rintro ee w' ⟨u,K',rfl,q1,q2,q3,q4,q5,q6,q7⟩
        exact⟨u,rfl,jbt m e q1 q2 q3 q4 q5 q6 q7 hs⟩
       ·cases hs
     |true=>
      rw[ua]at hs
      simp only[cT]at hs
      split at hs
      ·rename_i es hm
       split at hs
       ·rename_i h' hn
        obtain rfl:=zx hs
        obtain⟨hh,rfl⟩:=li hn
        obtain⟨ln,la⟩:=ec.maps k es hm
        have jJ:as++c.args.toList.map a.eval++bs=[]:=by
         have h1:first++vs++captured=[]:=N3.1 ua
         have h2:=hall.length
         rw[h1]at h2
         exact List.eq_nil_of_length_eq_zero h2
        refine .inr (.inr (.inl ⟨k,_,ij ln,?_⟩))
        rw[jJ]
        refine CallsIn.mono (la C.K w m.tabs m.know m.cQ) ?_
        rintro ee w' ⟨q,K',bP,clock,rfl,q1,q2,q3,q4,q5,q6,q7,q8⟩
        exact⟨_,rfl,jiu m e q1 q2 q3 q4 q5 hh q6 q7 q8⟩
       ·cases hs
      ·cases hs
    |bK=>
     simp only[]at hs
     cases ua:zw 0 (first++vs++captured)with
     |false=>rw[ua]at hs;cases hs
     |true=>
      rw[ua]at hs
      simp only[cT]at hs
      split at hs
      ·rename_i v ow pY
       cases hs
       obtain⟨ln,kK,pZ⟩:=Mv ec hx pY ua
       have lu:aM (.bK C.K) (first++vs++captured) (as++c.args.toList.map a.eval++bs):=
        qp.shift (C:=C) (C':=.bK C.K) 0 (fun _ _ _ h=>h) (fun b r aX=>by omega) hall ua
       refine .inr (.inr (.inl ⟨k,_,ij ln,CallsIn.mono (pZ C.K w _ m.tabs m.know m.cQ lu) ?_⟩))
       rintro ee w' ⟨u,K',rfl,q1,q2,q3,q4,q5,q6,q7⟩
       exact⟨u,rfl,q5b m e q1 q2 q3 q4 q5 kK q6 q7⟩
      ·cases hs
    |red=>
     simp only[]at hs
     split at hs
     ·rename_i xs Df
      cases kH:zw 0 xs with
      |false=>rw[kH]at hs;cases hs
      |true=>
       rw[kH]at hs
       simp only[cT]at hs
       split at hs
       ·rename_i v ow pY
        split at hs
        ·rename_i v' Fx hrd
         cases hs
         obtain⟨ln,kK,pZ⟩:=Mv ec hx pY kH
         refine .inr (.inr (.inl ⟨k,_,ij ln,CallsIn.mono (pZ (ki C hp w) w _ m.tabs (fun r o u h=>(Mu m h).1) (fun r o u h=>(Mu m h).2) (qt0 m Df hall kH)) ?_⟩))
         rintro ee w' ⟨u,K',rfl,q1,q2,q3,q4,q5,q6,q7⟩
         exact⟨u,rfl,jhv m e q1 q2 q3 q4 q5 q6 q7 hrd⟩
        ·cases hs
       ·cases hs
     ·cases hs
    |shr=>
     simp only[]at hs
     split at hs
     ·rename_i v ow h' Fp
      cases hs
      ·obtain⟨ln,mG⟩:=Fo ec hx Fp
       have lu:aM (C.shared ω w0) (first++vs++captured) (as++c.args.toList.map a.eval++bs):=qp.imp (C:=C) (C':=C.shared ω w0) ⟨fun _ _ _ h=>h,fun _ _ h=>h⟩ hall
       refine .inr (.inr (.inl ⟨k,_,ij ln,CallsIn.mono (mG _ _ _ _ lu (S9 m)) ?_⟩))
       rintro ee w' ⟨u,C',ω',rfl,q1,q2,q3,q4⟩
       exact⟨u,rfl,qt9 m e q2 q1 q3 q4⟩
     ·cases hs
  ·rename_i b vs e1 e2
   have wR:=zu e.bT h1 e1
   have Te:=C8 e.bT h2 e2
   generalize gB:a.eval f=fv at wR
   cases md with
   |bK=>simp at hs
   |fa _=>simp at hs
   |red=>simp at hs
   |shr=>
    simp only[]at hs
    split at hs
    ·rename_i v h' hy
     obtain rfl:=zx hs
     cases wR with
     |fn g g' _ _ as bs hf ha hb=>
      obtain⟨q,nX,rfl⟩:=hf
      cases ha
      cases hb
      obtain⟨ff,nA,assign,body,k1,k2⟩:=jfb (d:=d) hx m e nX Te hy
      refine .inr (.inr (.inr ⟨q,ff,nA,assign,body,?_,k2⟩))
      have dM:Array.map a.eval c.args=⟨c.args.toList.map a.eval⟩:=by
       apply Sd;simp
      rw[←dM]at k1
      simp[execOp,ho,resolve,nU,gB,Deferred.ofValue,invoke,k1]
    ·cases hs
  ·cases hs
 ·cases hc
theorem jrk {h:qb}{md:jd}{r h0:Nat}{dst:Option Nat}{al:Option (List Nat)}{cn:qw}{res:qq}(ec:qx P p)(hx:b9 P xc)(m:av P C ω w0 C0 hp w)(e:aj C ω w w0.heap.size env a.tmps)
  (mF:cn.gH=Gm) (hc:cx P h md r dst o.op=I cn) (hs:za p xc h0 al env hp cn=I res):dR P C C0 w0 a d env o w res:=by
 cases ho:o.op<;>rw[ho]at hc
 case move x=>exact jfm m e ho hc hs
 case assign x=>exact jaf m e ho hc hs
 case pick=>exact jim m e ho hc hs
 case alloc=>exact ja7 m e ho hc hs
 case box=>exact jk3 m e ho hc hs
 case build=>exact jdd m e ho hc hs
 case buildSlice=>exact qy3 m e ho hc hs
 case load=>exact jha m e ho hc hs
 case store=>exact jc1 m e ho mF hc hs
 case nilCheck=>exact q17 m e ho hc hs
 case binOp=>exact jms m e ho hc hs
 case unOp=>exact jpa m e ho hc hs
 case convert=>exact jia m e ho hc hs
 case makeFunc=>exact q44 m e ho hc hs
 case makeMap=>exact q6c m e ho hc hs
 case makeSlice=>exact q04 m e ho hc hs
 case slice=>exact jbl m e ho hc hs
 case fieldAddr=>exact q03 m e ho hc hs
 case field=>exact jcf m e ho hc hs
 case indexAddr=>exact q1g m e ho hc hs
 case index=>exact jb4 m e ho hc hs
 case range=>exact jbs m e ho hc hs
 case extract=>exact q5e m e ho hc hs
 case call c=>
  have dy:yN P h md r dst c=I cn:=hc
  by_cases hv:∃f,c.callee=.value f
  ·obtain⟨f,hf⟩:=hv
   exact jd6 ec hx m e ho hf dy hs
  ·exact q5l m e ho (fun f hf=>hv ⟨f,hf⟩) dy hs
 case lookup=>exact q9a m e ho hc hs
 case mapUpdate=>exact qpy m e (.inl ho) hc hs
 case insert t x y z=>exact qpy (h:=h) (md:=md) (r:=r) (dst:=dst) m e (.inr ho) (show cx P h md r dst (.mapUpdate t x y z)=I cn from hc) hs
 case next it b=>exact jiq m e ho hc hs
 all_goals (simp[cx]at hc;done)
end
end Go.Abs
