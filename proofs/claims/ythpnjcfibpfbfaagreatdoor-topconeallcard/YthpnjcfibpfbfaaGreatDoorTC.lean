/- The law TopConeAll. -/
import Derived.Test.YthpnjcfibpfbfaaGreatDoorAZ
import Derived.Test.YthpnjcfibpfbfaaGreatDoorPH
set_option linter.unusedVariables false
set_option linter.unusedSimpArgs false
set_option maxRecDepth 100000
set_option maxHeartbeats 4000000
namespace Go.Z
open Go Go.Abs
theorem Q25 {a0 a1:Option (List GEl)}{a2:Int}{a3:Bool}{r}(h:f25 a0 a1 a2 a3=some r):qd prZ (X prZ) 25 [sl 3 vel a0,sl 3 vel a1,.int .i64 a2,.bool a3]=some (.tup [.agg [.int .i64 r.1.a,.int .i64 r.1.b,.int .i64 r.1.c,.int .i64 r.1.d],.int .i64 r.2],false):=atZ rfl rfl (W25 h) (by first|rfl|simp only[go_sem,seval])
theorem Q26 {a0 a1:Option (List GEl)}{a2:Int}{a3:Bool}{r}(h:f26 a0 a1 a2 a3=some r):qd prZ (X prZ) 26 [sl 3 vel a0,sl 3 vel a1,.int .i64 a2,.bool a3]=some (.tup [.agg [.int .i64 r.1.num,.int .i64 r.1.den],.int .i64 r.2],false):=atZ rfl rfl (W26 h) (by first|rfl|simp only[go_sem,seval])
theorem Q27 {a0 a1:Option (List GEl)}{a2 a3:Int}{r}(h:f27 a0 a1 a2 a3=some r):qd prZ (X prZ) 27 [sl 3 vel a0,sl 3 vel a1,.int .i64 a2,.int .i64 a3]=some (.tup [.int .i64 r.1,.int .i64 r.2],false):=atZ rfl rfl (W27 h) (by first|rfl|simp only[go_sem,seval])
theorem Q28 {a0:Option (List GEl)}{a1:Int}{r}(h:f28 a0 a1=some r):qd prZ (X prZ) 28 [sl 3 vel a0,.int .i64 a1]=some (.tup [.agg [.int .i64 r.1.num,.int .i64 r.1.den],.int .i64 r.2],false):=atZ rfl rfl (W28 h) (by first|rfl|simp only[go_sem,seval])
theorem Q29 {a0 a1:Int}{r}(h:f29 a0 a1=some r):qd prZ (X prZ) 29 [.int .i64 a0,.int .i64 a1]=some (.agg [.int .i64 r.num,.int .i64 r.den],false):=atZ rfl rfl (W29 h) (by first|rfl|simp only[go_sem,seval])
noncomputable def f4 (a0:Int)(a1:Int)(a2:Int):Option Bool:=
 qh (qc7 (qa .i64 a0) 8) fun v1=>
 qh (qc7 (qa .i64 a1) 8) fun v3=>
 qh (qc7 (qa .i64 a2) 8) fun v5=>
 cond (decide (8<(qa .i64 ((qa .i64 (1+v1))*(qa .i64 (1+v3))))))
  (qh (E24) fun v8=>
  some v8)
  (qh (f25 (some [⟨([115,101,114,105,101,115]:List UInt8),0,qa .i64 (1+v1)⟩,⟨([115,104,117,110,116]:List UInt8),qa .i64 (1+v3),0⟩]) (some [⟨([98,108,111,99,107]:List UInt8),0,qa .i64 ((qa .i64 (1+v1))*(qa .i64 (1+v3)))⟩,⟨([115,104,117,110,116]:List UInt8),1,0⟩]) (qa .i64 (1+v5)) false) fun v10=>
  qh (f26 (some [⟨([115,101,114,105,101,115]:List UInt8),0,qa .i64 (1+v1)⟩,⟨([115,104,117,110,116]:List UInt8),qa .i64 (1+v3),0⟩]) (some [⟨([98,108,111,99,107]:List UInt8),0,qa .i64 ((qa .i64 (1+v1))*(qa .i64 (1+v3)))⟩,⟨([115,104,117,110,116]:List UInt8),1,0⟩]) (qa .i64 (1+v5)) false) fun v12=>
  qh (f26 (some [⟨([115,101,114,105,101,115]:List UInt8),0,qa .i64 (1+v1)⟩,⟨([115,104,117,110,116]:List UInt8),qa .i64 (1+v3),0⟩]) (some [⟨([98,108,111,99,107]:List UInt8),0,qa .i64 ((qa .i64 (1+v1))*(qa .i64 (1+v3)))⟩,⟨([115,104,117,110,116]:List UInt8),1,0⟩]) (qa .i64 (1+v5)) true) fun v14=>
  qh (f27 (some [⟨([115,101,114,105,101,115]:List UInt8),0,qa .i64 (1+v1)⟩,⟨([115,104,117,110,116]:List UInt8),qa .i64 (1+v3),0⟩]) (some [⟨([98,108,111,99,107]:List UInt8),0,qa .i64 ((qa .i64 (1+v1))*(qa .i64 (1+v3)))⟩,⟨([115,104,117,110,116]:List UInt8),1,0⟩]) 1 8) fun v16=>
  qh (f28 (some [⟨([115,101,114,105,101,115]:List UInt8),0,qa .i64 (1+v1)⟩,⟨([115,104,117,110,116]:List UInt8),qa .i64 (1+v3),0⟩]) (qa .i64 (1+v5))) fun v18=>
  qh (f28 (some [⟨([98,108,111,99,107]:List UInt8),0,qa .i64 ((qa .i64 (1+v1))*(qa .i64 (1+v3)))⟩,⟨([115,104,117,110,116]:List UInt8),1,0⟩]) (qa .i64 (1+v5))) fun v20=>
  cond (decide ((qa .i64 ((qa .i64 ((qa .i64 ((qa .i64 ((qa .i64 (v10.2+v12.2))+v14.2))+v16.2))+v18.2))+v20.2))=0))
   (cond (decide (v10.1.a=v10.1.c)&&decide (v10.1.b=v10.1.d))
    (cond (decide (v10.1.c=0)&&decide (v10.1.d=0))
     (some false)
     (cond (decide (v12.1.num=1)&&decide (v12.1.den=1))
      (cond (decide (v14.1.num=v12.1.num)&&decide (v14.1.den=v12.1.den))
       (cond (decide (v16.1=1))
        (qh (f29 1 (qa .i64 (1+(qa .i64 ((qa .i64 ((qa .i64 ((qa .i64 (1+v5))*(qa .i64 (1+v1))))*(qa .i64 (1+v3))))*(qa .i64 ((qa .i64 ((qa .i64 (1+v5))*(qa .i64 (1+v1))))*(qa .i64 (1+v3))))))))) fun v28=>
        cond (decide (v18.1.num=v28.num)&&decide (v18.1.den=v28.den))
         (qh (f29 (qa .i64 ((qa .i64 ((qa .i64 ((qa .i64 (1+v5))*(qa .i64 (1+v1))))*(qa .i64 (1+v3))))*(qa .i64 ((qa .i64 ((qa .i64 (1+v5))*(qa .i64 (1+v1))))*(qa .i64 (1+v3)))))) (qa .i64 (1+(qa .i64 ((qa .i64 ((qa .i64 ((qa .i64 (1+v5))*(qa .i64 (1+v1))))*(qa .i64 (1+v3))))*(qa .i64 ((qa .i64 ((qa .i64 (1+v5))*(qa .i64 (1+v1))))*(qa .i64 (1+v3))))))))) fun v31=>
         cond (decide (v20.1.num=v31.num)&&decide (v20.1.den=v31.den))
          (qh (E24) fun v34=>
          some v34)
          (some false))
         (some false))
        (some false))
       (some false))
      (some false)))
    (some false))
   (some false))
theorem W4 {a0:Int}{a1:Int}{a2:Int}{r}(h:f4 a0 a1 a2=some r):qd prZ (X prZ) 4 [.int .u8 a0,.int .u8 a1,.int .u8 a2]=some (.bool r,false):=by
 unfold f4 at h
 obtain⟨v1,h2,h⟩:=qc h
 obtain⟨v3,h4,h⟩:=qc h
 obtain⟨v5,h6,h⟩:=qc h
 rcases qr h with⟨h7,h⟩|⟨h7,h⟩
 ·obtain⟨v8,h9,h⟩:=qc h
  have wh9:qd prZ (X prZ) 24 []=some (.bool v8,false):=Q24 h9
  have hr:v8=r:=Option.some.inj h
  subst hr
  have this:∃hh,jq prZ (X prZ) 4 [.int .u8 a0,.int .u8 a1,.int .u8 a2] []=some (.bool v8,false,hh):=by
   rw[qm (show prZ.fns 4=some c4 from rfl) (by simp)]
   simp only[go_sem,seval,c4,jp h2,jp h4,jp h6,h7,wh9]
   exact⟨_,rfl⟩
  obtain⟨hh,this⟩:=this
  exact yb rfl this (by first|rfl|simp only[go_sem,seval]) (by first|rfl|simp only[go_sem,seval])
 ·obtain⟨v10,h11,h⟩:=qc h
  have wh11:qd prZ (X prZ) 25 [.list false 3 [.agg [.str ([115,101,114,105,101,115]:List UInt8),.int .i64 0,.int .i64 (qa .i64 (1+v1))],.agg [.str ([115,104,117,110,116]:List UInt8),.int .i64 (qa .i64 (1+v3)),.int .i64 0]],.list false 3 [.agg [.str ([98,108,111,99,107]:List UInt8),.int .i64 0,.int .i64 (qa .i64 ((qa .i64 (1+v1))*(qa .i64 (1+v3))))],.agg [.str ([115,104,117,110,116]:List UInt8),.int .i64 1,.int .i64 0]],.int .i64 (qa .i64 (1+v5)),.bool false]=some (.tup [.agg [.int .i64 v10.1.a,.int .i64 v10.1.b,.int .i64 v10.1.c,.int .i64 v10.1.d],.int .i64 v10.2],false):=Q25 h11
  obtain⟨v12,h13,h⟩:=qc h
  have wh13:qd prZ (X prZ) 26 [.list false 3 [.agg [.str ([115,101,114,105,101,115]:List UInt8),.int .i64 0,.int .i64 (qa .i64 (1+v1))],.agg [.str ([115,104,117,110,116]:List UInt8),.int .i64 (qa .i64 (1+v3)),.int .i64 0]],.list false 3 [.agg [.str ([98,108,111,99,107]:List UInt8),.int .i64 0,.int .i64 (qa .i64 ((qa .i64 (1+v1))*(qa .i64 (1+v3))))],.agg [.str ([115,104,117,110,116]:List UInt8),.int .i64 1,.int .i64 0]],.int .i64 (qa .i64 (1+v5)),.bool false]=some (.tup [.agg [.int .i64 v12.1.num,.int .i64 v12.1.den],.int .i64 v12.2],false):=Q26 h13
  obtain⟨v14,h15,h⟩:=qc h
  have wh15:qd prZ (X prZ) 26 [.list false 3 [.agg [.str ([115,101,114,105,101,115]:List UInt8),.int .i64 0,.int .i64 (qa .i64 (1+v1))],.agg [.str ([115,104,117,110,116]:List UInt8),.int .i64 (qa .i64 (1+v3)),.int .i64 0]],.list false 3 [.agg [.str ([98,108,111,99,107]:List UInt8),.int .i64 0,.int .i64 (qa .i64 ((qa .i64 (1+v1))*(qa .i64 (1+v3))))],.agg [.str ([115,104,117,110,116]:List UInt8),.int .i64 1,.int .i64 0]],.int .i64 (qa .i64 (1+v5)),.bool true]=some (.tup [.agg [.int .i64 v14.1.num,.int .i64 v14.1.den],.int .i64 v14.2],false):=Q26 h15
  obtain⟨v16,h17,h⟩:=qc h
  have wh17:qd prZ (X prZ) 27 [.list false 3 [.agg [.str ([115,101,114,105,101,115]:List UInt8),.int .i64 0,.int .i64 (qa .i64 (1+v1))],.agg [.str ([115,104,117,110,116]:List UInt8),.int .i64 (qa .i64 (1+v3)),.int .i64 0]],.list false 3 [.agg [.str ([98,108,111,99,107]:List UInt8),.int .i64 0,.int .i64 (qa .i64 ((qa .i64 (1+v1))*(qa .i64 (1+v3))))],.agg [.str ([115,104,117,110,116]:List UInt8),.int .i64 1,.int .i64 0]],.int .i64 1,.int .i64 8]=some (.tup [.int .i64 v16.1,.int .i64 v16.2],false):=Q27 h17
  obtain⟨v18,h19,h⟩:=qc h
  have wh19:qd prZ (X prZ) 28 [.list false 3 [.agg [.str ([115,101,114,105,101,115]:List UInt8),.int .i64 0,.int .i64 (qa .i64 (1+v1))],.agg [.str ([115,104,117,110,116]:List UInt8),.int .i64 (qa .i64 (1+v3)),.int .i64 0]],.int .i64 (qa .i64 (1+v5))]=some (.tup [.agg [.int .i64 v18.1.num,.int .i64 v18.1.den],.int .i64 v18.2],false):=Q28 h19
  obtain⟨v20,h21,h⟩:=qc h
  have wh21:qd prZ (X prZ) 28 [.list false 3 [.agg [.str ([98,108,111,99,107]:List UInt8),.int .i64 0,.int .i64 (qa .i64 ((qa .i64 (1+v1))*(qa .i64 (1+v3))))],.agg [.str ([115,104,117,110,116]:List UInt8),.int .i64 1,.int .i64 0]],.int .i64 (qa .i64 (1+v5))]=some (.tup [.agg [.int .i64 v20.1.num,.int .i64 v20.1.den],.int .i64 v20.2],false):=Q28 h21
  rcases qr h with⟨h22,h⟩|⟨h22,h⟩
  ·rcases qr h with⟨h23,h⟩|⟨h23,h⟩
   ·rcases qr h with⟨h24,h⟩|⟨h24,h⟩
    ·have hr:false=r:=Option.some.inj h
     subst hr
     have this:∃hh,jq prZ (X prZ) 4 [.int .u8 a0,.int .u8 a1,.int .u8 a2] []=some (.bool false,false,hh):=by
      rw[qm (show prZ.fns 4=some c4 from rfl) (by simp)]
      simp only[go_sem,seval,c4,jp h2,jp h4,jp h6,h7,wh11,wh13,wh15,wh17,wh19,wh21,h22,h23,h24]
      exact⟨_,rfl⟩
     obtain⟨hh,this⟩:=this
     exact yb rfl this (by first|rfl|simp only[go_sem,seval]) (by first|rfl|simp only[go_sem,seval])
    ·rcases qr h with⟨h25,h⟩|⟨h25,h⟩
     ·rcases qr h with⟨h26,h⟩|⟨h26,h⟩
      ·rcases qr h with⟨h27,h⟩|⟨h27,h⟩
       ·obtain⟨v28,h29,h⟩:=qc h
        have wh29:qd prZ (X prZ) 29 [.int .i64 1,.int .i64 (qa .i64 (1+(qa .i64 ((qa .i64 ((qa .i64 ((qa .i64 (1+v5))*(qa .i64 (1+v1))))*(qa .i64 (1+v3))))*(qa .i64 ((qa .i64 ((qa .i64 (1+v5))*(qa .i64 (1+v1))))*(qa .i64 (1+v3))))))))]=some (.agg [.int .i64 v28.num,.int .i64 v28.den],false):=Q29 h29
        rcases qr h with⟨h30,h⟩|⟨h30,h⟩
        ·obtain⟨v31,h32,h⟩:=qc h
         have wh32:qd prZ (X prZ) 29 [.int .i64 (qa .i64 ((qa .i64 ((qa .i64 ((qa .i64 (1+v5))*(qa .i64 (1+v1))))*(qa .i64 (1+v3))))*(qa .i64 ((qa .i64 ((qa .i64 (1+v5))*(qa .i64 (1+v1))))*(qa .i64 (1+v3)))))),.int .i64 (qa .i64 (1+(qa .i64 ((qa .i64 ((qa .i64 ((qa .i64 (1+v5))*(qa .i64 (1+v1))))*(qa .i64 (1+v3))))*(qa .i64 ((qa .i64 ((qa .i64 (1+v5))*(qa .i64 (1+v1))))*(qa .i64 (1+v3))))))))]=some (.agg [.int .i64 v31.num,.int .i64 v31.den],false):=Q29 h32
         rcases qr h with⟨h33,h⟩|⟨h33,h⟩
         ·obtain⟨v34,h35,h⟩:=qc h
          have wh35:qd prZ (X prZ) 24 []=some (.bool v34,false):=Q24 h35
          have hr:v34=r:=Option.some.inj h
          subst hr
          have this:∃hh,jq prZ (X prZ) 4 [.int .u8 a0,.int .u8 a1,.int .u8 a2] []=some (.bool v34,false,hh):=by
           rw[qm (show prZ.fns 4=some c4 from rfl) (by simp)]
           simp only[go_sem,seval,c4,jp h2,jp h4,jp h6,h7,wh11,wh13,wh15,wh17,wh19,wh21,h22,h23,h24,h25,h26,h27,wh29,h30,wh32,h33,wh35]
           exact⟨_,rfl⟩
          obtain⟨hh,this⟩:=this
          exact yb rfl this (by first|rfl|simp only[go_sem,seval]) (by first|rfl|simp only[go_sem,seval])
         ·have hr:false=r:=Option.some.inj h
          subst hr
          have this:∃hh,jq prZ (X prZ) 4 [.int .u8 a0,.int .u8 a1,.int .u8 a2] []=some (.bool false,false,hh):=by
           rw[qm (show prZ.fns 4=some c4 from rfl) (by simp)]
           simp only[go_sem,seval,c4,jp h2,jp h4,jp h6,h7,wh11,wh13,wh15,wh17,wh19,wh21,h22,h23,h24,h25,h26,h27,wh29,h30,wh32,h33]
           exact⟨_,rfl⟩
          obtain⟨hh,this⟩:=this
          exact yb rfl this (by first|rfl|simp only[go_sem,seval]) (by first|rfl|simp only[go_sem,seval])
        ·have hr:false=r:=Option.some.inj h
         subst hr
         have this:∃hh,jq prZ (X prZ) 4 [.int .u8 a0,.int .u8 a1,.int .u8 a2] []=some (.bool false,false,hh):=by
          rw[qm (show prZ.fns 4=some c4 from rfl) (by simp)]
          simp only[go_sem,seval,c4,jp h2,jp h4,jp h6,h7,wh11,wh13,wh15,wh17,wh19,wh21,h22,h23,h24,h25,h26,h27,wh29,h30]
          exact⟨_,rfl⟩
         obtain⟨hh,this⟩:=this
         exact yb rfl this (by first|rfl|simp only[go_sem,seval]) (by first|rfl|simp only[go_sem,seval])
       ·have hr:false=r:=Option.some.inj h
        subst hr
        have this:∃hh,jq prZ (X prZ) 4 [.int .u8 a0,.int .u8 a1,.int .u8 a2] []=some (.bool false,false,hh):=by
         rw[qm (show prZ.fns 4=some c4 from rfl) (by simp)]
         simp only[go_sem,seval,c4,jp h2,jp h4,jp h6,h7,wh11,wh13,wh15,wh17,wh19,wh21,h22,h23,h24,h25,h26,h27]
         exact⟨_,rfl⟩
        obtain⟨hh,this⟩:=this
        exact yb rfl this (by first|rfl|simp only[go_sem,seval]) (by first|rfl|simp only[go_sem,seval])
      ·have hr:false=r:=Option.some.inj h
       subst hr
       have this:∃hh,jq prZ (X prZ) 4 [.int .u8 a0,.int .u8 a1,.int .u8 a2] []=some (.bool false,false,hh):=by
        rw[qm (show prZ.fns 4=some c4 from rfl) (by simp)]
        simp only[go_sem,seval,c4,jp h2,jp h4,jp h6,h7,wh11,wh13,wh15,wh17,wh19,wh21,h22,h23,h24,h25,h26]
        exact⟨_,rfl⟩
       obtain⟨hh,this⟩:=this
       exact yb rfl this (by first|rfl|simp only[go_sem,seval]) (by first|rfl|simp only[go_sem,seval])
     ·have hr:false=r:=Option.some.inj h
      subst hr
      have this:∃hh,jq prZ (X prZ) 4 [.int .u8 a0,.int .u8 a1,.int .u8 a2] []=some (.bool false,false,hh):=by
       rw[qm (show prZ.fns 4=some c4 from rfl) (by simp)]
       simp only[go_sem,seval,c4,jp h2,jp h4,jp h6,h7,wh11,wh13,wh15,wh17,wh19,wh21,h22,h23,h24,h25]
       exact⟨_,rfl⟩
      obtain⟨hh,this⟩:=this
      exact yb rfl this (by first|rfl|simp only[go_sem,seval]) (by first|rfl|simp only[go_sem,seval])
   ·have hr:false=r:=Option.some.inj h
    subst hr
    have this:∃hh,jq prZ (X prZ) 4 [.int .u8 a0,.int .u8 a1,.int .u8 a2] []=some (.bool false,false,hh):=by
     rw[qm (show prZ.fns 4=some c4 from rfl) (by simp)]
     simp only[go_sem,seval,c4,jp h2,jp h4,jp h6,h7,wh11,wh13,wh15,wh17,wh19,wh21,h22,h23]
     exact⟨_,rfl⟩
    obtain⟨hh,this⟩:=this
    exact yb rfl this (by first|rfl|simp only[go_sem,seval]) (by first|rfl|simp only[go_sem,seval])
  ·have hr:false=r:=Option.some.inj h
   subst hr
   have this:∃hh,jq prZ (X prZ) 4 [.int .u8 a0,.int .u8 a1,.int .u8 a2] []=some (.bool false,false,hh):=by
    rw[qm (show prZ.fns 4=some c4 from rfl) (by simp)]
    simp only[go_sem,seval,c4,jp h2,jp h4,jp h6,h7,wh11,wh13,wh15,wh17,wh19,wh21,h22]
    exact⟨_,rfl⟩
   obtain⟨hh,this⟩:=this
   exact yb rfl this (by first|rfl|simp only[go_sem,seval]) (by first|rfl|simp only[go_sem,seval])
def loL (b g:Int):List GEl:=[⟨([115,101,114,105,101,115]:List UInt8),0,b⟩,⟨([115,104,117,110,116]:List UInt8),g,0⟩]
def hiL (n:Int):List GEl:=[⟨([98,108,111,99,107]:List UInt8),0,n⟩,⟨([115,104,117,110,116]:List UInt8),1,0⟩]
def eqG (x:GRat)(a b:Int):Bool:=decide (x.num=a)&&decide (x.den=b)
theorem qx0 {x:GRat}{a b:Int}:eqG x a b=true↔x=⟨a,b⟩:=by
 obtain⟨p,q⟩:=x
 simp only[eqG,Bool.and_eq_true,decide_eq_true_eq,GRat.mk.injEq]
def qvg (b g a:Int):Bool:=
 decide (zt (loL b g)=0)&&(decide (zt (hiL (qa .i64 (b*g)))=0)&&(decide (yp (loL b g)=0)&&(decide (yp (hiL (qa .i64 (b*g)))=0)&&(decide (jh a 1 8=0) &&
 (!isZ (en0 (chn a (loL b g)).1)&&(!isZ (en0 (chn a (hiL (qa .i64 (b*g)))).1) &&
 (eqG (qb4 a (loL b g) (hiL (qa .i64 (b*g))) false) (qao a (loL b g) (hiL (qa .i64 (b*g)))).num (qao a (loL b g) (hiL (qa .i64 (b*g)))).den &&
 (!(decide ((qao a (loL b g) (hiL (qa .i64 (b*g)))).num=0)&&decide ((qao a (loL b g) (hiL (qa .i64 (b*g)))).den=0)) &&
 (eqG (low (sqV (qb4 a (loL b g) (hiL (qa .i64 (b*g))) false)) (sqV (qao a (loL b g) (hiL (qa .i64 (b*g)))))) 1 1 &&
 (eqG (low (sqV (qb4 a (loL b g) (hiL (qa .i64 (b*g))) true)) (sqV (qao a (loL b g) (hiL (qa .i64 (b*g)))))) 1 1 &&
 (decide (up (gW (loL b g) (hiL (qa .i64 (b*g)))) (pW (loL b g) (hiL (qa .i64 (b*g)))) 8 1 0=some 1) &&
 (decide ((lev a (loL b g)).2=0)&&(decide ((lev a (hiL (qa .i64 (b*g)))).2=0) &&
 (let n:=qa .i64 (qa .i64 (a*b)*g)
  let m:=qa .i64 (n*n)
  let k:=qa .i64 (1+m)
  decide (0≤m)&&(decide (m≤9223372036854775807)&&(decide (0<k)&&(decide (k≤9223372036854775807) &&
  (eqG (lev a (loL b g)).1 (low 1 k).num (low 1 k).den&&eqG (lev a (hiL (qa .i64 (b*g)))).1 (low m k).num (low m k).den))))))))))))))))))
def q1e:Bool:=(List.range 8).all fun i=>(List.range 8).all fun j=>(List.range 8).all fun k=>
 decide (8<qa .i64 (qa .i64 (1+(i:Int))*qa .i64 (1+(j:Int))))||qvg (qa .i64 (1+(i:Int))) (qa .i64 (1+(j:Int))) (qa .i64 (1+(k:Int)))
theorem qxn:q1e=true:=by kernel_rfl
theorem qz4 {o q:Option (List GEl)}(h1:zt (o.getD [])=0)(h2:zt (q.getD [])=0)(hu:up (gW (o.getD []) (q.getD [])) (pW (o.getD []) (q.getD [])) 8 1 0=some 1):f27 o q 1 8=some (1,0):=by
 have ha:=(qcx h1).1
 have hb:=(qcx h2).1
 have hc:qo5 (o.getD []) (q.getD []) 1 8=0:=by
  unfold qo5
  rw[qcw]
  intro x hx
  simp only[List.mem_cons,List.not_mem_nil,or_false]at hx
  rcases hx with rfl|rfl|rfl|rfl|rfl
  ·exact h1
  ·exact h2
  ·rfl
  ·rfl
  ·rfl
 obtain⟨d,g1,g2⟩:=qxa (o:=o) (q:=q) ha hb (hi:=8) (by omega) 8 1 0 (by omega) (by omega)
 have e27:f27 o q 1 8=qh (itO (qec o q 8) (0,1)) fun d49=>match d49 with
   | .inl d51=>some (0,d51.1)
   | .inr d52=>qh (f55 (decide (d52.1=0)) 7) fun v53=>some (d52.1,v53):=by
  unfold f27
  rw[qjy,qq,qjy,qq,qo8,qq,qo8,qq,qhl,qq,qiu (by simp),qq]
  show cond (decide (qo5 (o.getD []) (q.getD []) 1 8=0)) _ _=_
  rw[decide_eq_true hc];rfl
 rw[e27,g1,qq]
 rcases d with d|d
 ·dsimp only at g2
  rw[hu]at g2
  cases g2.1
 ·dsimp only at g2 ⊢
  rw[hu]at g2
  have e:=Option.some.inj g2
  rw[qhl,qq,←e];rfl
structure Fx (b g a m k:Int)(x y:Int)(p q:GRat):Prop where
 e25:f25 (some (loL b g)) (some (hiL (qa .i64 (b*g)))) a false=some (⟨x,y,x,y⟩,0)
 nz:(decide (x=0)&&decide (y=0))=false
 e26:f26 (some (loL b g)) (some (hiL (qa .i64 (b*g)))) a false=some (⟨1,1⟩,0)
 e26t:f26 (some (loL b g)) (some (hiL (qa .i64 (b*g)))) a true=some (⟨1,1⟩,0)
 e27:f27 (some (loL b g)) (some (hiL (qa .i64 (b*g)))) 1 8=some (1,0)
 e28:f28 (some (loL b g)) a=some (p,0)
 e28h:f28 (some (hiL (qa .i64 (b*g)))) a=some (q,0)
 e29:f29 1 k=some p
 e29h:f29 m k=some q
theorem qyg {b g a:Int}(h:qvg b g a=true):∃x y p q,Fx b g a (qa .i64 (qa .i64 (qa .i64 (a*b)*g)*qa .i64 (qa .i64 (a*b)*g))) (qa .i64 (1+qa .i64 (qa .i64 (qa .i64 (a*b)*g)*qa .i64 (qa .i64 (a*b)*g)))) x y p q:=by
 unfold qvg at h
 simp only[Bool.and_eq_true,decide_eq_true_eq,qx0,Bool.not_eq_true']at h
 obtain⟨h1,h2,h3,h4,h5,h6,h7,h8,h9,h10,h11,h12,h13,h14,h15,h16,h17,h18,h19,h20⟩:=h
 have g1:=qty (o:=some (loL b g)) (q:=some (hiL (qa .i64 (b*g)))) (inv:=false) h1 h2 h5
 have g2:=qqr (o:=some (loL b g)) (q:=some (hiL (qa .i64 (b*g)))) (inv:=false) h1 h2 h5 h6 h7
 have g3:=qqr (o:=some (loL b g)) (q:=some (hiL (qa .i64 (b*g)))) (inv:=true) h1 h2 h5 h6 h7
 have g4:=qkv (o:=some (loL b g)) h3 h5
 have g5:=qkv (o:=some (hiL (qa .i64 (b*g)))) h4 h5
 simp only[Option.getD_some]at g1 g2 g3 g4 g5
 rw[qqp h6 h7,h8]at g1
 rw[h10]at g2
 rw[h11]at g3
 refine⟨_,_,(lev a (loL b g)).1,(lev a (hiL (qa .i64 (b*g)))).1,g1,h9,g2,g3,qz4 h1 h2 h12,?_,?_,?_,?_⟩
 ·rw[g4];congr 1;exact Prod.ext rfl h13
 ·rw[g5];congr 1;exact Prod.ext rfl h14
 ·rw[qqt (by omega) (by omega) h17 h18,h19]
 ·rw[qqt h15 h16 h17 h18,h20]
theorem quz {a:Int}(h0:0≤a)(h1:a≤255):∃i:Nat,i<8∧qc7 (qa .i64 a) 8=some (i:Int):=by
 obtain⟨n,rfl⟩:=Int.eq_ofNat_of_zero_le h0
 refine⟨n % 8,Nat.mod_lt _ (by omega),?_⟩
 rw[q9 (by omega) (by omega)]
 exact qnw (a:=n) (b:=8) (by omega)
theorem qyr {a0 a1 a2:Int}(h0:0≤a0∧a0≤255)(h1:0≤a1∧a1≤255)(h2:0≤a2∧a2≤255):f4 a0 a1 a2=some true:=by
 obtain⟨i,i8,e0⟩:=quz h0.1 h0.2
 obtain⟨j,j8,e1⟩:=quz h1.1 h1.2
 obtain⟨k,k8,e2⟩:=quz h2.1 h2.2
 have hall:=qxn
 unfold q1e at hall
 have hi:=List.all_eq_true.1 hall i (List.mem_range.2 i8)
 have hj:=List.all_eq_true.1 hi j (List.mem_range.2 j8)
 have hk:=List.all_eq_true.1 hj k (List.mem_range.2 k8)
 unfold f4
 rw[e0,qq,e1,qq,e2,qq]
 generalize qa .i64 (1+(i:Int))=b at hk ⊢
 generalize qa .i64 (1+(j:Int))=g at hk ⊢
 generalize qa .i64 (1+(k:Int))=a at hk ⊢
 cases hd:decide (8<qa .i64 (b*g))with
 |true=>rfl
 |false=>
  rw[hd,Bool.false_or]at hk
  obtain⟨x,y,p,q,F⟩:=qyg hk
  obtain⟨r1,r2,r3,r4,r5,r6,r7,r8,r9⟩:=F
  simp only[loL,hiL]at r1 r3 r4 r5 r6 r7
  rw[cond_false,r1,qq,r3,qq,r4,qq,r5,qq,r6,qq,r7,qq]
  simp only[r2,r8,r9,qq,decide_true,Bool.and_self,cond_true,cond_false]
  rfl
theorem I4 (a0 a1 a2:Int)(h0:0≤a0∧a0≤255)(h1:0≤a1∧a1≤255)(h2:0≤a2∧a2≤255):qd prZ (X prZ) 4 [.int .u8 a0,.int .u8 a1,.int .u8 a2]=some (.bool true,false):=W4 (qyr h0 h1 h2)
end Go.Z
