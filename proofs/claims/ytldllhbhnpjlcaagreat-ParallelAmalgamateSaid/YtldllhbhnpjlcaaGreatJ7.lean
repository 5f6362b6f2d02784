/- Joined texts, part 7: lemmas for the statement. No condition. -/
import Derived.Test.YtldllhbhnpjlcaaGreatJ4
import Derived.Test.YtldllhbhnpjlcaaGreatJ5
import Derived.Test.YtldllhbhnpjlcaaGreatJ6
import Derived.Test.YtldllhbhnpjlcaaGreatRows
set_option maxHeartbeats 4000000
set_option linter.unusedSimpArgs false
set_option linter.unusedVariables false
open Nat (reduceEqDiff reduceLT reduceLeDiff reduceMul reduceAdd reduceSub)
open Go.IntKind (i64)
open Go.Proofs.Tryz
open Go.Proofs.Tryz renaming prog → pw
set_option maxRecDepth 20000
namespace Go.Proofs.YtldllhbhnpjlcaaGreat
open Go.bP
noncomputable section
theorem wR(a0:Types)(a1:aF)(a2:aF)(r:Int)(h:iT a0 a1 a2=some r):aB pw 47 [.agg [.aE (a0.nodes.map az),.aE (a0.ag.map aA)],.agg (aQ a1),.agg (aQ a2)] (λv=>v = .val (.int .i64 r)):=by
 refine aB.eV ?_;refine aC [] func47 ?_;rw[ntmps47,results47];unfold iT at h;have F:=trivial;refine zK F h (oA _) λr3 h=>?_
 refine cG F h (λF h=>?_) λF h=>?_
 ·obtain⟨l5,hl7,h⟩:=rF h;have hm6:l5.map aQ=[[.val (.string a1.name),.aE (a1.left.graph.nodes.map encI),.aE (a1.left.graph.ag.map ay),.aE (a1.left.slots.map aL),.val (.int .i64 a1.left.vars),.aE (a1.left.tests.map aM),.aE (a1.right.graph.nodes.map encI),.aE (a1.right.graph.ag.map ay),.aE (a1.right.slots.map aL),.val (.int .i64 a1.right.vars),.aE (a1.right.tests.map aM),.aE (a1.keep.nodes.map encI),.aE (a1.keep.ag.map encI),.aE (a1.into.nodes.map encI),.aE (a1.into.ag.map encI),.val (.bool a1.injective),.val (.int .i64 a1.condition.kind),.aE (a1.condition.kids.map aI),.aE (a1.condition.map.nodes.map encI),.aE (a1.condition.map.ag.map encI),.aE (a1.condition.pattern.graph.nodes.map encI),.aE (a1.condition.pattern.graph.ag.map ay),.aE (a1.condition.pattern.slots.map aL),.val (.int .i64 a1.condition.pattern.vars),.aE (a1.condition.pattern.tests.map aM)],[.val (.string a2.name),.aE (a2.left.graph.nodes.map encI),.aE (a2.left.graph.ag.map ay),.aE (a2.left.slots.map aL),.val (.int .i64 a2.left.vars),.aE (a2.left.tests.map aM),.aE (a2.right.graph.nodes.map encI),.aE (a2.right.graph.ag.map ay),.aE (a2.right.slots.map aL),.val (.int .i64 a2.right.vars),.aE (a2.right.tests.map aM),.aE (a2.keep.nodes.map encI),.aE (a2.keep.ag.map encI),.aE (a2.into.nodes.map encI),.aE (a2.into.ag.map encI),.val (.bool a2.injective),.val (.int .i64 a2.condition.kind),.aE (a2.condition.kids.map aI),.aE (a2.condition.map.nodes.map encI),.aE (a2.condition.map.ag.map encI),.aE (a2.condition.pattern.graph.nodes.map encI),.aE (a2.condition.pattern.graph.ag.map ay),.aE (a2.condition.pattern.slots.map aL),.val (.int .i64 a2.condition.pattern.vars),.aE (a2.condition.pattern.tests.map aM)]]:=by cases hl7;rfl
  refine zV ?_;refine zN F h () [3,4,5,23] (λx=>[(22,.p (.aE (l5.map aQ))),(24,.p (.val (.int .i64 ((x.1.1:Nat):Int))))]) [3,4,5] (λx H=>[]) ?_ ?_ (hw:=by exact afJ (by simp -implicitDefEqProofs only[go_sem,F,hm6]<;>and_intros<;>rfl))
  ·intro i4 s4 g4 _ _ F Ns4 h;try dsimp only at h
   refine zI aQ F h λe8 F h=>?_
   refine zK F h (acy _ _) λr9 h=>?_
   refine cG F h (λF h=>?_) λF h=>?_
   ·exact zX (z:=Ns4 _ () h zW)
   ·exact zR h
  ·intro i4 s4 g4 _ F h;try dsimp only at h
   refine zK F h (wG _) λoZ h=>?_
   refine eZ F h (λF h=>?_) λF h=>?_
   ·refine zK F h (wG _) λqg h=>?_
    refine cG F h (λF h=>?_) λF h=>?_
    ·exact zR h
    ·exact zR h
   ·exact zR h
 ·exact zR h
end
noncomputable section
theorem wS(a0:Types)(a1:aF)(a2:aF)(r:aF×ah×ah×Int)(h:gQ a0 a1 a2=some r):aZ pw 14 [.agg [.aE (a0.nodes.map az),.aE (a0.ag.map aA)],.agg (aQ a1),.agg (aQ a2)] (λv=>v = .dg [.agg [.p (.val (.string r.1.name)),.row 3 1 (r.1.left.graph.nodes.map encI),.row 165 3 (r.1.left.graph.ag.map ay),.p (.aE (r.1.left.slots.map aL)),.p (.val (.int .i64 r.1.left.vars)),.p (.aE (r.1.left.tests.map aM)),.row 3 1 (r.1.right.graph.nodes.map encI),.row 165 3 (r.1.right.graph.ag.map ay),.p (.aE (r.1.right.slots.map aL)),.p (.val (.int .i64 r.1.right.vars)),.p (.aE (r.1.right.tests.map aM)),.row 3 1 (r.1.keep.nodes.map encI),.row 3 1 (r.1.keep.ag.map encI),.row 3 1 (r.1.into.nodes.map encI),.row 3 1 (r.1.into.ag.map encI),.p (.val (.bool r.1.injective)),.p (.val (.int .i64 r.1.condition.kind)),.p (.aE (r.1.condition.kids.map aI)),.p (.aE (r.1.condition.map.nodes.map encI)),.p (.aE (r.1.condition.map.ag.map encI)),.p (.aE (r.1.condition.pattern.graph.nodes.map encI)),.p (.aE (r.1.condition.pattern.graph.ag.map ay)),.p (.aE (r.1.condition.pattern.slots.map aL)),.p (.val (.int .i64 r.1.condition.pattern.vars)),.p (.aE (r.1.condition.pattern.tests.map aM))],.agg [.row 3 1 (r.2.1.nodes.map encI),.row 3 1 (r.2.1.ag.map encI)],.agg [.row 3 1 (r.2.2.1.nodes.map encI),.row 3 1 (r.2.2.1.ag.map encI)],.p (.val (.int .i64 r.2.2.2))]):=by
 refine aZ.tj ?_;refine bl [2000006,2000007] func14 ?_;rw[ntmps14,results14];unfold gQ at h;have F:=trivial;refine zK F h (pe _ _ _) λr3 h=>?_
 refine cG F h (λF h=>?_) λF h=>?_
 ·refine zG 1576 F h (o6 _ _) λr4 h=>?_
  refine cG F h (λF h=>?_) λF h=>?_
  ·refine zG 1864 F h (o6 _ _) λr5 h=>?_
   refine cG F h (λF h=>?_) λF h=>?_
   ·refine zE [(0,.q),(1,.q),(2,.q),(3,.q),(4,.q),(5,.q),(6,.q),(7,.q),(8,.q),(9,.q),(10,.q),(12,.q),(13,.q),(14,.q),(15,.q),(16,.q),(17,.q),(18,.q),(19,.q),(20,.q),(21,.q),(22,.q),(11,.f),(23,.f),(24,.q),(25,.q),(26,.w)] ?_;refine zH 2344 F h (jv _ _ _) λr6 h=>?_
    refine zH 2536 F h (jv _ _ _) λr7 h=>?_
    refine zE [(0,.q),(1,.q),(2,.q),(3,.q),(4,.q),(5,.q),(6,.q),(7,.q),(8,.q),(9,.q),(10,.q),(12,.q),(13,.q),(14,.q),(15,.q),(16,.q),(17,.q),(18,.q),(19,.q),(20,.q),(21,.q),(22,.q),(11,.f),(23,.f),(24,.q),(25,.q),(26,.w)] ?_;refine zH 2760 F h (jv _ _ _) λr8 h=>?_
    refine zH 2952 F h (jv _ _ _) λr9 h=>?_
    refine zD [.q,.o,.o,.s,.s,.w,.q] ?_;exact fQ h
   ·exact fQ h
  ·exact fQ h
 ·exact fQ h
end
noncomputable section
theorem yY(a0:Types)(a1:ak)(a2:aj)(a3:Host)(a4:aS)(a5:Bool)(r:Bool×Int)(h:mO a0 a1 a2 a3 a4 a5=some r):aB pw 179 [.agg [.aE (a0.nodes.map az),.aE (a0.ag.map aA)],.agg (bL a1),.agg (aI a2),.agg (jW a3),.agg (gG a4),.val (.bool a5)] (λv=>v = .dg [.val (.bool r.1),.val (.int .i64 r.2)]):=by
 refine aB.eV ?_;refine aC [] func179 ?_;rw[ntmps179,results179];unfold mO at h;have F:=trivial;refine zK F h (aaW _ _ _ _ _ _) λr6 h=>?_
 refine zB F h (λF h=>?_) λF h=>?_
 ·exact zR h
 ·exact zR h
end
noncomputable section
theorem ajx(a0:Types)(a1:aF)(a2:Host)(r:Int)(h:xM a0 a1 a2=some r):aB pw 107 [.agg [.aE (a0.nodes.map az),.aE (a0.ag.map aA)],.agg (aQ a1),.agg (jW a2)] (λv=>v = .val (.int .i64 r)):=by
 refine aB.eV ?_;refine aC [] func107 ?_;rw[ntmps107,results107];unfold xM at h;have F:=trivial;refine zK F h (oA _) λr3 h=>?_
 refine cG F h (λF h=>?_) λF h=>?_
 ·refine zK F h (acy _ _) λr4 h=>?_
  refine cG F h (λF h=>?_) λF h=>?_
  ·refine zK F h (xG _ _) λr5 h=>?_
   exact zR h
  ·exact zR h
 ·exact zR h
end
noncomputable section
end
noncomputable section
end
noncomputable section
theorem qw(a0:Types)(a1:aF)(a2:aF)(a3:cM)(r:aF×Int)(h:gh a0 a1 a2 a3=some r):aZ pw 20 [.agg [.aE (a0.nodes.map az),.aE (a0.ag.map aA)],.agg (aQ a1),.agg (aQ a2),.agg (kR a3)] (λv=>v = .dg [.agg [.p (.val (.string r.1.name)),.p (.aE (r.1.left.graph.nodes.map encI)),.p (.aE (r.1.left.graph.ag.map ay)),.p (.aE (r.1.left.slots.map aL)),.p (.val (.int .i64 r.1.left.vars)),.p (.aE (r.1.left.tests.map aM)),.row 3 1 (r.1.right.graph.nodes.map encI),.row 165 3 (r.1.right.graph.ag.map ay),.p (.aE (r.1.right.slots.map aL)),.p (.val (.int .i64 r.1.right.vars)),.p (.aE (r.1.right.tests.map aM)),.p (.aE (r.1.keep.nodes.map encI)),.p (.aE (r.1.keep.ag.map encI)),.p (.aE (r.1.into.nodes.map encI)),.p (.aE (r.1.into.ag.map encI)),.p (.val (.bool r.1.injective)),.p (.val (.int .i64 r.1.condition.kind)),.p (.aE (r.1.condition.kids.map aI)),.p (.aE (r.1.condition.map.nodes.map encI)),.p (.aE (r.1.condition.map.ag.map encI)),.p (.aE (r.1.condition.pattern.graph.nodes.map encI)),.p (.aE (r.1.condition.pattern.graph.ag.map ay)),.p (.aE (r.1.condition.pattern.slots.map aL)),.p (.val (.int .i64 r.1.condition.pattern.vars)),.p (.aE (r.1.condition.pattern.tests.map aM))],.p (.val (.int .i64 r.2))]):=by
 refine aZ.tj ?_;refine bl [] func20 ?_;rw[ntmps20,results20];unfold gh at h;have F:=trivial;refine zK F h (wR _ _ _) λr13 h=>?_
 refine zB F h (λF h=>?_) λF h=>?_
 ·refine zK F h (gS _ _ _) λr14 h=>?_
  refine zB F h (λF h=>?_) λF h=>?_
  ·refine zK F h (gS _ _ _) λr15 h=>?_
   refine cG F h (λF h=>?_) λF h=>?_
   ·refine zK F h (kO _ _ _) λr16 h=>?_
    refine eZ F h (λF h=>?_) λF h=>?_
    ·refine zK F h (kO _ _ _) λr19 h=>?_
     refine eZ F h (λF h=>?_) λF h=>?_
     ·refine zK F h (adA _ _ _ _ _) λr20 h=>?_
      refine cG F h (λF h=>?_) λF h=>?_
      ·refine zD [.q,.q,.q,.q,.q,.q,.q,.q,.q,.q] ?_;refine zD [.q,.q,.q,.q,.q,.q,.q,.q,.q,.q,.q,.q,.q,.q,.q,.q,.q,.q,.q,.q,.q,.q] ?_;refine yH F h (mX _ _ _) λr21 h=>?_
       refine yH F h (mX _ _ _) λr22 h=>?_
       refine yH F h (rL _ _) λr23 h=>?_
       refine zD [.q,.q,.q,.q,.q,.q,.q,.q,.q,.q,.q,.q,.q,.q,.q,.q,.q,.q,.q,.q,.q,.q] ?_;refine yH F h (mX _ _ _) λr24 h=>?_
       refine yH F h (mX _ _ _) λr25 h=>?_
       refine yH F h (rL _ _) λr26 h=>?_
       refine eZ F h (λF h=>?_) λF h=>?_
       ·refine cG F h (λF h=>?_) λF h=>?_
        ·refine zG 3384 F h (uv _ _) λr27 h=>?_
         refine cG F h (λF h=>?_) λF h=>?_
         ·refine zV ?_;obtain⟨r28,h1,h⟩:=rF h;obtain⟨r29,h2,h⟩:=rF h;refine aoZ (azJ a1 a2 a3 (⟨r23.1,r26.1⟩:aO) r27.1 r28 r29) (by kernel_rfl) (by kernel_rfl) ?_ ?_ ?_
          ·refine⟨(0,0),(0,0),.start _ _,?_⟩;simp -implicitDefEqProofs only[go_sem,F,fL,List.map_cons,List.map_nil,Bool.false_eq_true,false_imp_iff,true_imp_iff,and_true,true_and]<;>and_intros<;>first|rfl|trivial
          ·unfold mP mP mP mP mP mP mP mP mP mP mP mP mP mP;refine⟨?_,?_,?_,?_,?_,?_,?_,?_,?_,?_,?_,?_,?_,trivial⟩
           ·rintro l e G ⟨x,y,hf,⟨e5,e6,e7,e30,e31⟩,⟨g5,g6,g7,g30,g31,gA,gB⟩,v0,v1,v2,v3,v4,v5,v6,v7,v8,v9,v32,v33,c32,c34,k0,k1,k2,n0,n1,n2⟩ hl ha;try simp only[Nat.zero_add,Nat.reduceAdd] at hl ⊢
            simp -implicitDefEqProofs only[go_sem,e31,g31,fL,List.map_cons,List.map_nil];exact⟨x,y,hf.up (by omega),by simp +contextual [cD,bh,hl,ny,fL,fL,aQ,e5,e6,e7,e30,e31,g5,g6,g7,g30,g31,gA,gB,v0,v1,v2,v3,v4,v5,v6,v7,v8,v9,v32,v33,c32,c34,k0,k1,k2,n0,n1,n2]⟩
           ·rintro l e G ⟨x,y,hf,⟨e5,e6,e7,e30,e31⟩,⟨g5,g6,g7,g30,g31,gA,gB⟩,v0,v1,v2,v3,v4,v5,v6,v7,v8,v9,v32,v33,c32,c34,k0,k1,k2,n0,n1,n2⟩ hl ha;try simp only[Nat.zero_add,Nat.reduceAdd] at hl ⊢
            simp -implicitDefEqProofs only[go_sem,e5,g5,fL,List.map_cons,List.map_nil];exact⟨x,y,hf.up (by omega),by simp +contextual [cD,bh,hl,ny,fL,fL,aQ,e5,e6,e7,e30,e31,g5,g6,g7,g30,g31,gA,gB,v0,v1,v2,v3,v4,v5,v6,v7,v8,v9,v32,v33,c32,c34,k0,k1,k2,n0,n1,n2]⟩
           ·rintro l e G ⟨x,y,hf,⟨e5,e6,e7,e30,e31⟩,⟨g5,g6,g7,g30,g31,gA,gB⟩,v0,v1,v2,v3,v4,v5,v6,v7,v8,v9,v32,v33,c32,c34,k0,k1,k2,n0,n1,n2⟩ hl ha;try simp only[Nat.zero_add,Nat.reduceAdd] at hl ⊢
            simp -implicitDefEqProofs only[go_sem,e7,fL,List.map_cons,List.map_nil];exact⟨x,y,hf.up (by omega),by simp +contextual [cD,bh,hl,ny,fL,fL,aQ,e5,e6,e7,e30,e31,g5,g6,g7,g30,g31,gA,gB,v0,v1,v2,v3,v4,v5,v6,v7,v8,v9,v32,v33,c32,c34,k0,k1,k2,n0,n1,n2]⟩
           ·rintro l e G ⟨x,y,hf,⟨e5,e6,e7,e30,e31⟩,⟨g5,g6,g7,g30,g31,gA,gB⟩,v0,v1,v2,v3,v4,v5,v6,v7,v8,v9,v32,v33,c32,c34,k0,k1,k2,n0,n1,n2⟩ hl ha;try simp only[Nat.zero_add,Nat.reduceAdd] at hl ⊢
            simp[Region.binds] at ha;simp -implicitDefEqProofs only[go_sem,g7,v2 ha,fL,List.map_cons,List.map_nil];exact⟨x,y,hf.up (by omega),by simp +contextual [cD,bh,hl,ny,fL,fL,aQ,e5,e6,e7,e30,e31,g5,g6,g7,g30,g31,gA,gB,v0,v1,v2,v3,v4,v5,v6,v7,v8,v9,v32,v33,c32,c34,k0,k1,k2,n0,n1,n2]⟩
           ·rintro l e G ⟨x,y,hf,⟨e5,e6,e7,e30,e31⟩,⟨g5,g6,g7,g30,g31,gA,gB⟩,v0,v1,v2,v3,v4,v5,v6,v7,v8,v9,v32,v33,c32,c34,k0,k1,k2,n0,n1,n2⟩ hl ha;try simp only[Nat.zero_add,Nat.reduceAdd] at hl ⊢
            simp -implicitDefEqProofs only[go_sem,e30,g30,fL,List.map_cons,List.map_nil];exact⟨x,y,hf.up (by omega),by simp +contextual [cD,bh,hl,ny,fL,fL,aQ,e5,e6,e7,e30,e31,g5,g6,g7,g30,g31,gA,gB,v0,v1,v2,v3,v4,v5,v6,v7,v8,v9,v32,v33,c32,c34,k0,k1,k2,n0,n1,n2]⟩
           ·rintro l e G ⟨x,y,hf,⟨e5,e6,e7,e30,e31⟩,⟨g5,g6,g7,g30,g31,gA,gB⟩,v0,v1,v2,v3,v4,v5,v6,v7,v8,v9,v32,v33,c32,c34,k0,k1,k2,n0,n1,n2⟩ hl ha;try simp only[Nat.zero_add,Nat.reduceAdd] at hl ⊢
            simp[Region.binds] at ha;have l32:l 10=false:=by cases hq:l 10 with|false=>rfl|true=>rw[c32 hq] at hl;cases hl
            obtain⟨G1,G2⟩:=k0 hl;have l34:l 12=false:=by cases hq:l 12 with|false=>rfl|true=>rw[(c34 hq).1] at l32;cases l32
            obtain⟨q0,q1,q3,q4⟩:=ha;have E0:=v0 q0;have E1:=v1 q1;have E3:=v3 q3;have E4:=v4 q4;unfold ny at E0;simp -implicitDefEqProofs only[go_sem,E0,E1,E3,E4];refine awR (by decide) (by decide) (by decide) gA gB (aaa 0 0 _ _ _ _ _ h1) G1 G2 (by simp -implicitDefEqProofs only[go_sem,E0,E1,E3,E4,List.map_cons,List.map_nil]<;>rfl) (by simp -implicitDefEqProofs only[go_sem,List.map_cons,List.map_nil,sR]<;>rfl) (by simp -implicitDefEqProofs only[go_sem,List.map_cons,List.map_nil,sR]<;>rfl) (by simp -implicitDefEqProofs only[go_sem,List.map_cons,List.map_nil,sR]<;>rfl) λw=>?_
            simp -implicitDefEqProofs only[go_sem,hl];exact⟨w,y,(((hf.up (by omega)).hs (by omega)).hs (by omega)),by simp +contextual [cD,bh,hl,ny,l32,l34,fL,aQ,e5,e6,e7,e30,e31,g5,g6,g7,g30,g31,gA,gB,v0,v1,v2,v3,v4,v5,v6,v7,v8,v9,v32,v33,c32,c34,k0,k1,k2,n0,n1,n2]⟩
           ·rintro l e G ⟨x,y,hf,⟨e5,e6,e7,e30,e31⟩,⟨g5,g6,g7,g30,g31,gA,gB⟩,v0,v1,v2,v3,v4,v5,v6,v7,v8,v9,v32,v33,c32,c34,k0,k1,k2,n0,n1,n2⟩ hl ha;try simp only[Nat.zero_add,Nat.reduceAdd] at hl ⊢
            simp -implicitDefEqProofs only[go_sem,e6,g6,fL,List.map_cons,List.map_nil];exact⟨x,y,hf.up (by omega),by simp +contextual [cD,bh,hl,ny,fL,fL,aQ,e5,e6,e7,e30,e31,g5,g6,g7,g30,g31,gA,gB,v0,v1,v2,v3,v4,v5,v6,v7,v8,v9,v32,v33,c32,c34,k0,k1,k2,n0,n1,n2]⟩
           ·rintro l e G ⟨x,y,hf,⟨e5,e6,e7,e30,e31⟩,⟨g5,g6,g7,g30,g31,gA,gB⟩,v0,v1,v2,v3,v4,v5,v6,v7,v8,v9,v32,v33,c32,c34,k0,k1,k2,n0,n1,n2⟩ hl ha;try simp only[Nat.zero_add,Nat.reduceAdd] at hl ⊢
            simp -implicitDefEqProofs only[go_sem,e7,fL,List.map_cons,List.map_nil];exact⟨x,y,hf.up (by omega),by simp +contextual [cD,bh,hl,ny,fL,fL,aQ,e5,e6,e7,e30,e31,g5,g6,g7,g30,g31,gA,gB,v0,v1,v2,v3,v4,v5,v6,v7,v8,v9,v32,v33,c32,c34,k0,k1,k2,n0,n1,n2]⟩
           ·rintro l e G ⟨x,y,hf,⟨e5,e6,e7,e30,e31⟩,⟨g5,g6,g7,g30,g31,gA,gB⟩,v0,v1,v2,v3,v4,v5,v6,v7,v8,v9,v32,v33,c32,c34,k0,k1,k2,n0,n1,n2⟩ hl ha;try simp only[Nat.zero_add,Nat.reduceAdd] at hl ⊢
            simp[Region.binds] at ha;simp -implicitDefEqProofs only[go_sem,g7,v7 ha,fL,List.map_cons,List.map_nil];exact⟨x,y,hf.up (by omega),by simp +contextual [cD,bh,hl,ny,fL,fL,aQ,e5,e6,e7,e30,e31,g5,g6,g7,g30,g31,gA,gB,v0,v1,v2,v3,v4,v5,v6,v7,v8,v9,v32,v33,c32,c34,k0,k1,k2,n0,n1,n2]⟩
           ·rintro l e G ⟨x,y,hf,⟨e5,e6,e7,e30,e31⟩,⟨g5,g6,g7,g30,g31,gA,gB⟩,v0,v1,v2,v3,v4,v5,v6,v7,v8,v9,v32,v33,c32,c34,k0,k1,k2,n0,n1,n2⟩ hl ha;try simp only[Nat.zero_add,Nat.reduceAdd] at hl ⊢
            simp -implicitDefEqProofs only[go_sem,e30,g30,fL,List.map_cons,List.map_nil];exact⟨x,y,hf.up (by omega),by simp +contextual [cD,bh,hl,ny,fL,fL,aQ,e5,e6,e7,e30,e31,g5,g6,g7,g30,g31,gA,gB,v0,v1,v2,v3,v4,v5,v6,v7,v8,v9,v32,v33,c32,c34,k0,k1,k2,n0,n1,n2]⟩
           ·rintro l e G ⟨x,y,hf,⟨e5,e6,e7,e30,e31⟩,⟨g5,g6,g7,g30,g31,gA,gB⟩,v0,v1,v2,v3,v4,v5,v6,v7,v8,v9,v32,v33,c32,c34,k0,k1,k2,n0,n1,n2⟩ hl ha;try simp only[Nat.zero_add,Nat.reduceAdd] at hl ⊢
            simp[Region.binds] at ha;obtain⟨q5,q6,q8,q9,_⟩:=ha;have l34:l 12=false:=by cases hq:l 12 with|false=>rfl|true=>rw[(c34 hq).1] at hl;cases hl
            obtain⟨G1,G2⟩:=k1 q5 hl;have E0:=v5 q5;have E1:=v6 q6;have E3:=v8 q8;have E4:=v9 q9;unfold ny at E0;simp -implicitDefEqProofs only[go_sem,E0,E1,E3,E4];refine awR (by decide) (by decide) (by decide) gA gB (aaa x.1 x.2 _ _ _ _ _ h2) G1 G2 (by simp -implicitDefEqProofs only[go_sem,E0,E1,E3,E4,List.map_cons,List.map_nil]<;>rfl) (by simp -implicitDefEqProofs only[go_sem,List.map_cons,List.map_nil,sR]<;>rfl) (by simp -implicitDefEqProofs only[go_sem,List.map_cons,List.map_nil,sR]<;>rfl) (by simp -implicitDefEqProofs only[go_sem,List.map_cons,List.map_nil,sR]<;>rfl) λw=>?_
            simp -implicitDefEqProofs only[go_sem,hl];exact⟨x,w,(((hf.up (by omega)).hs (by omega)).hs (by omega)),by simp +contextual [cD,bh,hl,ny,l34,q5,fL,aQ,e5,e6,e7,e30,e31,g5,g6,g7,g30,g31,gA,gB,v0,v1,v2,v3,v4,v5,v6,v7,v8,v9,v32,v33,c32,c34,k0,k1,k2,n0,n1,n2]⟩
           ·rintro l e G ⟨x,y,hf,⟨e5,e6,e7,e30,e31⟩,⟨g5,g6,g7,g30,g31,gA,gB⟩,v0,v1,v2,v3,v4,v5,v6,v7,v8,v9,v32,v33,c32,c34,k0,k1,k2,n0,n1,n2⟩ hl ha;try simp only[Nat.zero_add,Nat.reduceAdd] at hl ⊢
            have l34:l 12=false:=by cases hq:l 12 with|false=>rfl|true=>rw[(c34 hq).2] at hl;cases hl
            have G0:=n0 hl;simp -implicitDefEqProofs only[go_sem,G0];exact⟨x,y,((hf.up (by omega)).hs (by omega)),by simp +contextual [cD,bh,hl,ny,l34,fL,aQ,e5,e6,e7,e30,e31,g5,g6,g7,g30,g31,gA,gB,v0,v1,v2,v3,v4,v5,v6,v7,v8,v9,v32,v33,c32,c34,k0,k1,k2,n0,n1,n2]⟩
           ·rintro l e G ⟨x,y,hf,⟨e5,e6,e7,e30,e31⟩,⟨g5,g6,g7,g30,g31,gA,gB⟩,v0,v1,v2,v3,v4,v5,v6,v7,v8,v9,v32,v33,c32,c34,k0,k1,k2,n0,n1,n2⟩ hl ha;try simp only[Nat.zero_add,Nat.reduceAdd] at hl ⊢
            simp[Region.binds] at ha;have q32:l 10=true:=by simp[ha]
            have q33:l 11=true:=by simp[ha]
            have E0:=v32 q32;have E1:=v33 q33;have G0:=n1 q33 hl;unfold ny at E0;simp -implicitDefEqProofs only[go_sem,E0,E1,G0];exact⟨x,y,(hf.hs (by omega)),by simp +contextual [cD,bh,hl,ny,q32,q33,fL,aQ,e5,e6,e7,e30,e31,g5,g6,g7,g30,g31,gA,gB,v0,v1,v2,v3,v4,v5,v6,v7,v8,v9,v32,v33,c32,c34,k0,k1,k2,n0,n1,n2]⟩
          ·intro l e G hI hall;obtain⟨x,y35,he,hg⟩:=aCd hI hall;subst he;subst hg;unfold aCb aCc ny;refine zK F h (qO _ _) λr36 h=>?_
           refine zB F h (λF h=>?_) λF h=>?_
           ·exact fQ h
           ·refine zD [.q,.q,.q,.q,.q,.q,.q,.q,.q,.w,.s] ?_;refine yH F h (bE _) λr37 h=>?_
            refine yH F h (lf _) λr38 h=>?_
            refine zD [.q,.q,.q,.q,.q,.q,.q,.q,.q,.q,.q,.q,.q,.q,.q,.q,.q,.w,.q] ?_;refine yH F h (aad _) λr39 h=>?_
            refine zBd F h (λF h=>?_) λF h=>?_
            ·exact fQ h
            ·exact fQ h
         ·exact fQ h
        ·exact fQ h
       ·exact fQ h
      ·exact fQ h
     ·exact fQ h
    ·exact fQ h
   ·exact fQ h
  ·exact fQ h
 ·exact fQ h
end
noncomputable section
theorem ajy(a0:Types)(a1:aF)(a2:Host)(a3:aS)(r:bB×Int)(h:xP a0 a1 a2 a3=some r):aZ pw 108 [.agg [.aE (a0.nodes.map az),.aE (a0.ag.map aA)],.agg (aQ a1),.agg (jW a2),.agg (gG a3)] (λv=>v = .dg [.agg [.p (.val (.string r.1.rule.name)),.p (.aE (r.1.rule.left.graph.nodes.map encI)),.p (.aE (r.1.rule.left.graph.ag.map ay)),.p (.aE (r.1.rule.left.slots.map aL)),.p (.val (.int .i64 r.1.rule.left.vars)),.p (.aE (r.1.rule.left.tests.map aM)),.p (.aE (r.1.rule.right.graph.nodes.map encI)),.p (.aE (r.1.rule.right.graph.ag.map ay)),.p (.aE (r.1.rule.right.slots.map aL)),.p (.val (.int .i64 r.1.rule.right.vars)),.p (.aE (r.1.rule.right.tests.map aM)),.p (.aE (r.1.rule.keep.nodes.map encI)),.p (.aE (r.1.rule.keep.ag.map encI)),.p (.aE (r.1.rule.into.nodes.map encI)),.p (.aE (r.1.rule.into.ag.map encI)),.p (.val (.bool r.1.rule.injective)),.p (.val (.int .i64 r.1.rule.condition.kind)),.p (.aE (r.1.rule.condition.kids.map aI)),.p (.aE (r.1.rule.condition.map.nodes.map encI)),.p (.aE (r.1.rule.condition.map.ag.map encI)),.p (.aE (r.1.rule.condition.pattern.graph.nodes.map encI)),.p (.aE (r.1.rule.condition.pattern.graph.ag.map ay)),.p (.aE (r.1.rule.condition.pattern.slots.map aL)),.p (.val (.int .i64 r.1.rule.condition.pattern.vars)),.p (.aE (r.1.rule.condition.pattern.tests.map aM)),.p (.aE (r.1.cg.aK.nodes.map encI)),.p (.aE (r.1.cg.aK.ag.map encI)),.p (.aE (r.1.cg.vars.map encI)),.p (.aE (r.1.before.graph.nodes.map encI)),.p (.aE (r.1.before.graph.ag.map ay)),.p (.aE (r.1.before.values.map dw)),.row 3 1 (r.1.after.graph.nodes.map encI),.row 165 3 (r.1.after.graph.ag.map ay),.row 35 1 (r.1.after.values.map dw),.p (.aE (r.1.lD.nodes.map encI)),.p (.aE (r.1.lD.ag.map encI)),.p (.aE (r.1.iZ.nodes.map encI)),.p (.aE (r.1.iZ.ag.map encI))],.p (.val (.int .i64 r.2))]):=by
 refine aZ.tj ?_;refine bl [] func108 ?_;rw[ntmps108,results108];unfold xP at h;have F:=trivial;refine zK F h (af5 _ _ _ _) λr4 h=>?_
 refine cG F h (λF h=>?_) λF h=>?_
 ·refine zG 1560 F h (acu _ _ _ _) λr5 h=>?_
  refine cG F h (λF h=>?_) λF h=>?_
  ·refine zG 1800 F h (aex _ _ _ _) λr6 h=>?_
   refine cG F h (λF h=>?_) λF h=>?_
   ·refine zK F h (yY _ _ _ _ _ _) λr7 h=>?_
    refine cG F h (λF h=>?_) λF h=>?_
    ·refine cG F h (λF h=>?_) λF h=>?_
     ·refine zD [.q,.q,.q,.q,.q,.q,.w,.s] ?_;refine yH F h (adx _) λr8 h=>?_
      refine yH F h (aev _) λr9 h=>?_
      refine zV ?_;refine mI 1800 0 3 1 (r6.1.nodes.map encI) [] (by simp -implicitDefEqProofs only[go_sem,F]<;>rfl) (by simp -implicitDefEqProofs only[go_sem,F]<;>and_intros<;>rfl) (by decide) ?_;refine mI 1801 0 3 1 (r6.1.ag.map encI) [] (by simp -implicitDefEqProofs only[go_sem,F]<;>rfl) (by simp -implicitDefEqProofs only[go_sem,F]<;>and_intros<;>rfl) (by decide) ?_;refine zD [.q,.q,.q,.q,.q,.q,.q,.q,.q,.q,.q,.q,.q,.q,.q,.q,.w] ?_;refine yH F h (acr _ _) λoZ h=>?_
      refine yH F h (acr _ _) λqg h=>?_
      refine zD [.q,.q,.q,.q,.q,.q,.q,.q,.q,.q,.q,.q,.q,.q,.q,.q,.q,.q,.q,.q,.q,.q,.q,.q,.q,.q,.q,.q,.q,.q,.q,.q,.q,.q,.q,.q,.q,.q,.q,.q,.q,.q,.q,.q,.w] ?_;refine yH F h (aae _ _ _ _ _ _) λvM h=>?_
      refine yH F h (aae _ _ _ _ _ _) λr13 h=>?_
      refine zCH 15 F h (ajt _ _ _) λr14 v15 h=>?_
      refine zC F h λF h=>?_
      refine aCa ?_;refine jj F h (λF h=>?_) λF h=>?_
      ·exact fQ h
      ·refine zB F h (λF h=>?_) λF h=>?_
       ·exact fQ h
       ·exact fQ h
     ·exact fQ h
    ·exact fQ h
   ·exact fQ h
  ·exact fQ h
 ·exact fQ h
end
noncomputable section
end
noncomputable section
theorem qQ(a0:Types)(a1:aF)(a2:aF)(r:aF×ah×ah×Int)(h:gL a0 a1 a2=some r):aZ pw 13 [.agg [.aE (a0.nodes.map az),.aE (a0.ag.map aA)],.agg (aQ a1),.agg (aQ a2)] (λv=>v = .dg [.agg [.p (.val (.string r.1.name)),.row 3 1 (r.1.left.graph.nodes.map encI),.row 165 3 (r.1.left.graph.ag.map ay),.p (.aE (r.1.left.slots.map aL)),.p (.val (.int .i64 r.1.left.vars)),.p (.aE (r.1.left.tests.map aM)),.row 3 1 (r.1.right.graph.nodes.map encI),.row 165 3 (r.1.right.graph.ag.map ay),.p (.aE (r.1.right.slots.map aL)),.p (.val (.int .i64 r.1.right.vars)),.p (.aE (r.1.right.tests.map aM)),.row 3 1 (r.1.keep.nodes.map encI),.row 3 1 (r.1.keep.ag.map encI),.row 3 1 (r.1.into.nodes.map encI),.row 3 1 (r.1.into.ag.map encI),.p (.val (.bool r.1.injective)),.p (.val (.int .i64 r.1.condition.kind)),.p (.aE (r.1.condition.kids.map aI)),.p (.aE (r.1.condition.map.nodes.map encI)),.p (.aE (r.1.condition.map.ag.map encI)),.p (.aE (r.1.condition.pattern.graph.nodes.map encI)),.p (.aE (r.1.condition.pattern.graph.ag.map ay)),.p (.aE (r.1.condition.pattern.slots.map aL)),.p (.val (.int .i64 r.1.condition.pattern.vars)),.p (.aE (r.1.condition.pattern.tests.map aM))],.agg [.row 3 1 (r.2.1.nodes.map encI),.row 3 1 (r.2.1.ag.map encI)],.agg [.row 3 1 (r.2.2.1.nodes.map encI),.row 3 1 (r.2.2.1.ag.map encI)],.p (.val (.int .i64 r.2.2.2))]):=by
 refine aZ.tj ?_;refine bl [] func13 ?_;rw[ntmps13,results13];unfold gL at h;have F:=trivial;refine zK F h (wR _ _ _) λr3 h=>?_
 refine cG F h (λF h=>?_) λF h=>?_
 ·refine zG 1368 F h (adC _ _) λr4 h=>?_
  exact fQ h
 ·exact fQ h
end
noncomputable section
theorem jc(a0:Types)(a1:aF)(a2:Host)(a3:aS)(r:bB×Int)(h:gC a0 a1 a2 a3=some r):aZ pw 41 [.agg [.aE (a0.nodes.map az),.aE (a0.ag.map aA)],.agg (aQ a1),.agg (jW a2),.agg (gG a3)] (λv=>v = .dg [.agg [.p (.val (.string r.1.rule.name)),.p (.aE (r.1.rule.left.graph.nodes.map encI)),.p (.aE (r.1.rule.left.graph.ag.map ay)),.p (.aE (r.1.rule.left.slots.map aL)),.p (.val (.int .i64 r.1.rule.left.vars)),.p (.aE (r.1.rule.left.tests.map aM)),.p (.aE (r.1.rule.right.graph.nodes.map encI)),.p (.aE (r.1.rule.right.graph.ag.map ay)),.p (.aE (r.1.rule.right.slots.map aL)),.p (.val (.int .i64 r.1.rule.right.vars)),.p (.aE (r.1.rule.right.tests.map aM)),.p (.aE (r.1.rule.keep.nodes.map encI)),.p (.aE (r.1.rule.keep.ag.map encI)),.p (.aE (r.1.rule.into.nodes.map encI)),.p (.aE (r.1.rule.into.ag.map encI)),.p (.val (.bool r.1.rule.injective)),.p (.val (.int .i64 r.1.rule.condition.kind)),.p (.aE (r.1.rule.condition.kids.map aI)),.p (.aE (r.1.rule.condition.map.nodes.map encI)),.p (.aE (r.1.rule.condition.map.ag.map encI)),.p (.aE (r.1.rule.condition.pattern.graph.nodes.map encI)),.p (.aE (r.1.rule.condition.pattern.graph.ag.map ay)),.p (.aE (r.1.rule.condition.pattern.slots.map aL)),.p (.val (.int .i64 r.1.rule.condition.pattern.vars)),.p (.aE (r.1.rule.condition.pattern.tests.map aM)),.p (.aE (r.1.cg.aK.nodes.map encI)),.p (.aE (r.1.cg.aK.ag.map encI)),.p (.aE (r.1.cg.vars.map encI)),.p (.aE (r.1.before.graph.nodes.map encI)),.p (.aE (r.1.before.graph.ag.map ay)),.p (.aE (r.1.before.values.map dw)),.row 3 1 (r.1.after.graph.nodes.map encI),.row 165 3 (r.1.after.graph.ag.map ay),.row 35 1 (r.1.after.values.map dw),.p (.aE (r.1.lD.nodes.map encI)),.p (.aE (r.1.lD.ag.map encI)),.p (.aE (r.1.iZ.nodes.map encI)),.p (.aE (r.1.iZ.ag.map encI))],.p (.val (.int .i64 r.2))]):=by
 refine aZ.tj ?_;refine bl [] func41 ?_;rw[ntmps41,results41];unfold gC at h;have F:=trivial;refine zK F h (ajx _ _ _) λr4 h=>?_
 refine cG F h (λF h=>?_) λF h=>?_
 ·refine zG 1368 F h (ajy _ _ _ _) λr5 h=>?_
  exact fQ h
 ·exact fQ h
end
noncomputable section
end
noncomputable section
end
noncomputable section
end
noncomputable section
end
noncomputable section
theorem ajz(a0:Types)(a1:bB)(r:Bool)(h:xR a0 a1=some r):aB pw 109 [.agg [.aE (a0.nodes.map az),.aE (a0.ag.map aA)],.agg (tX a1)] (λv=>v = .val (.bool r)):=by
 refine aB.eV ?_;refine aC [] func109 ?_;rw[ntmps109,results109];unfold xR at h;have F:=trivial;refine zG 1240 F h (jc _ _ _ _) λr2 h=>?_
 refine eZ F h (λF h=>?_) λF h=>?_
 ·refine zK F h (amb _ _) λr3 h=>?_
  exact zR h
 ·exact zR h
end
noncomputable section
theorem adF(a0:Types)(a1:aF)(a2:aF)(a3:bB)(r:bB×bB×Int)(h:qN a0 a1 a2 a3=some r):aZ pw 42 [.agg [.aE (a0.nodes.map az),.aE (a0.ag.map aA)],.agg (aQ a1),.agg (aQ a2),.agg (tX a3)] (λv=>v = .dg [.agg [.p (.val (.string r.1.rule.name)),.p (.aE (r.1.rule.left.graph.nodes.map encI)),.p (.aE (r.1.rule.left.graph.ag.map ay)),.p (.aE (r.1.rule.left.slots.map aL)),.p (.val (.int .i64 r.1.rule.left.vars)),.p (.aE (r.1.rule.left.tests.map aM)),.p (.aE (r.1.rule.right.graph.nodes.map encI)),.p (.aE (r.1.rule.right.graph.ag.map ay)),.p (.aE (r.1.rule.right.slots.map aL)),.p (.val (.int .i64 r.1.rule.right.vars)),.p (.aE (r.1.rule.right.tests.map aM)),.p (.aE (r.1.rule.keep.nodes.map encI)),.p (.aE (r.1.rule.keep.ag.map encI)),.p (.aE (r.1.rule.into.nodes.map encI)),.p (.aE (r.1.rule.into.ag.map encI)),.p (.val (.bool r.1.rule.injective)),.p (.val (.int .i64 r.1.rule.condition.kind)),.p (.aE (r.1.rule.condition.kids.map aI)),.p (.aE (r.1.rule.condition.map.nodes.map encI)),.p (.aE (r.1.rule.condition.map.ag.map encI)),.p (.aE (r.1.rule.condition.pattern.graph.nodes.map encI)),.p (.aE (r.1.rule.condition.pattern.graph.ag.map ay)),.p (.aE (r.1.rule.condition.pattern.slots.map aL)),.p (.val (.int .i64 r.1.rule.condition.pattern.vars)),.p (.aE (r.1.rule.condition.pattern.tests.map aM)),.p (.aE (r.1.cg.aK.nodes.map encI)),.p (.aE (r.1.cg.aK.ag.map encI)),.p (.aE (r.1.cg.vars.map encI)),.p (.aE (r.1.before.graph.nodes.map encI)),.p (.aE (r.1.before.graph.ag.map ay)),.p (.aE (r.1.before.values.map dw)),.p (.aE (r.1.after.graph.nodes.map encI)),.p (.aE (r.1.after.graph.ag.map ay)),.p (.aE (r.1.after.values.map dw)),.p (.aE (r.1.lD.nodes.map encI)),.p (.aE (r.1.lD.ag.map encI)),.p (.aE (r.1.iZ.nodes.map encI)),.p (.aE (r.1.iZ.ag.map encI))],.agg [.p (.val (.string r.2.1.rule.name)),.p (.aE (r.2.1.rule.left.graph.nodes.map encI)),.p (.aE (r.2.1.rule.left.graph.ag.map ay)),.p (.aE (r.2.1.rule.left.slots.map aL)),.p (.val (.int .i64 r.2.1.rule.left.vars)),.p (.aE (r.2.1.rule.left.tests.map aM)),.p (.aE (r.2.1.rule.right.graph.nodes.map encI)),.p (.aE (r.2.1.rule.right.graph.ag.map ay)),.p (.aE (r.2.1.rule.right.slots.map aL)),.p (.val (.int .i64 r.2.1.rule.right.vars)),.p (.aE (r.2.1.rule.right.tests.map aM)),.p (.aE (r.2.1.rule.keep.nodes.map encI)),.p (.aE (r.2.1.rule.keep.ag.map encI)),.p (.aE (r.2.1.rule.into.nodes.map encI)),.p (.aE (r.2.1.rule.into.ag.map encI)),.p (.val (.bool r.2.1.rule.injective)),.p (.val (.int .i64 r.2.1.rule.condition.kind)),.p (.aE (r.2.1.rule.condition.kids.map aI)),.p (.aE (r.2.1.rule.condition.map.nodes.map encI)),.p (.aE (r.2.1.rule.condition.map.ag.map encI)),.p (.aE (r.2.1.rule.condition.pattern.graph.nodes.map encI)),.p (.aE (r.2.1.rule.condition.pattern.graph.ag.map ay)),.p (.aE (r.2.1.rule.condition.pattern.slots.map aL)),.p (.val (.int .i64 r.2.1.rule.condition.pattern.vars)),.p (.aE (r.2.1.rule.condition.pattern.tests.map aM)),.p (.aE (r.2.1.cg.aK.nodes.map encI)),.p (.aE (r.2.1.cg.aK.ag.map encI)),.p (.aE (r.2.1.cg.vars.map encI)),.p (.aE (r.2.1.before.graph.nodes.map encI)),.p (.aE (r.2.1.before.graph.ag.map ay)),.p (.aE (r.2.1.before.values.map dw)),.row 3 1 (r.2.1.after.graph.nodes.map encI),.row 165 3 (r.2.1.after.graph.ag.map ay),.row 35 1 (r.2.1.after.values.map dw),.p (.aE (r.2.1.lD.nodes.map encI)),.p (.aE (r.2.1.lD.ag.map encI)),.p (.aE (r.2.1.iZ.nodes.map encI)),.p (.aE (r.2.1.iZ.ag.map encI))],.p (.val (.int .i64 r.2.2))]):=by
 refine aZ.tj ?_;refine bl [2000008] func42 ?_;rw[ntmps42,results42];unfold qN at h;have F:=trivial;refine zG 1464 F h (qQ _ _ _) λr4 h=>?_
 refine cG F h (λF h=>?_) λF h=>?_
 ·refine zK F h (ajz _ _) λr5 h=>?_
  refine eZ F h (λF h=>?_) λF h=>?_
  ·refine zK F h (ad6 _ _) λr6 h=>?_
   refine cG F h (λF h=>?_) λF h=>?_
   ·refine zD [.q,.q,.q,.q,.q,.q,.q,.q,.q,.q,.q,.q] ?_;refine zD [.q,.q,.q,.q,.q,.q,.q,.q,.q,.q] ?_;refine eZ F h (λF h=>?_) λF h=>?_
    ·refine zC F h λF h=>?_
     refine zF (eq_true (eu (n:=1) (f:=encI) (λ_=>rfl) a3.cg.aK.nodes)) F λF=>?_
     refine zK F h (iB _) λr7 h=>?_
     refine eZ F h (λF h=>?_) λF h=>?_
     ·refine zC F h λF h=>?_
      refine zF (eq_true (eu (n:=1) (f:=encI) (λ_=>rfl) a3.cg.aK.ag)) F λF=>?_
      refine zK F h (iB _) λr8 h=>?_
      refine eZ F h (λF h=>?_) λF h=>?_
      ·refine eZ F h (λF h=>?_) λF h=>?_
       ·refine zC F h λF h=>?_
        refine zF (eq_true (eu (n:=1) (f:=encI) (λ_=>rfl) a3.cg.aK.nodes)) F λF=>?_
        refine zK F h (iB _) λr9 h=>?_
        refine eZ F h (λF h=>?_) λF h=>?_
        ·refine zC F h λF h=>?_
         refine zF (eq_true (eu (n:=1) (f:=encI) (λ_=>rfl) a3.cg.aK.ag)) F λF=>?_
         refine zK F h (iB _) λoZ h=>?_
         refine cG F h (λF h=>?_) λF h=>?_
         ·refine zD [.q,.q,.q,.q,.q,.q,.q,.q,.q,.q,.q,.q,.q,.q,.f,.q,.q,.o,.w,.s,.q] ?_;refine zC F h λF h=>?_
          refine zF (eq_true (eu (n:=1) (f:=encI) (λ_=>rfl) a3.cg.aK.nodes)) F λF=>?_
          refine yH F h (bE _) λqg h=>?_
          refine zC F h λF h=>?_
          refine zF (eq_true (eu (n:=1) (f:=encI) (λ_=>rfl) a3.cg.aK.ag)) F λF=>?_
          refine yH F h (bE _) λvM h=>?_
          refine zH 2904 F h (jc _ _ _ _) λr13 h=>?_
          refine cG F h (λF h=>?_) λF h=>?_
          ·refine zD [.q,.q,.q,.q,.q,.q,.q,.q,.q,.q,.q,.q] ?_;refine zC F h λF h=>?_
           refine zF (eq_true (eu (n:=1) (f:=encI) (λ_=>rfl) a3.cg.aK.nodes)) F λF=>?_
           refine yH F h (fD _ _) λr14 h=>?_
           refine zD [.q,.q,.q,.q,.q,.q,.q,.q,.q,.q,.q,.q] ?_;refine zC F h λF h=>?_
           refine zF (eq_true (eu (n:=1) (f:=encI) (λ_=>rfl) a3.cg.aK.ag)) F λF=>?_
           refine yH F h (fD _ _) λr15 h=>?_
           refine eZ F h (λF h=>?_) λF h=>?_
           ·refine cG F h (λF h=>?_) λF h=>?_
            ·refine zGs ([2904,2905,2906],3624) F h (jc _ _ _ _) λr16 h=>?_
             refine cG F h (λF h=>?_) λF h=>?_
             ·refine zD [.q,.o,.s,.w,.q] ?_;exact fQ h
             ·exact fQ h
            ·exact fQ h
           ·exact fQ h
          ·exact fQ h
         ·exact fQ h
        ·exact fQ h
       ·refine zD [.q,.q,.q,.q,.q,.q,.q,.q,.q,.q,.q,.q,.q,.q,.f,.q,.q,.o,.w,.s,.q] ?_;refine zC F h λF h=>?_
        refine zF (eq_true (eu (n:=1) (f:=encI) (λ_=>rfl) a3.cg.aK.nodes)) F λF=>?_
        refine yH F h (bE _) λr17 h=>?_
        refine zC F h λF h=>?_
        refine zF (eq_true (eu (n:=1) (f:=encI) (λ_=>rfl) a3.cg.aK.ag)) F λF=>?_
        refine yH F h (bE _) λr18 h=>?_
        refine zH 2904 F h (jc _ _ _ _) λr19 h=>?_
        refine cG F h (λF h=>?_) λF h=>?_
        ·refine zD [.q,.q,.q,.q,.q,.q,.q,.q,.q,.q,.q,.q] ?_;refine zC F h λF h=>?_
         refine zF (eq_true (eu (n:=1) (f:=encI) (λ_=>rfl) a3.cg.aK.nodes)) F λF=>?_
         refine yH F h (fD _ _) λr20 h=>?_
         refine zD [.q,.q,.q,.q,.q,.q,.q,.q,.q,.q,.q,.q] ?_;refine zC F h λF h=>?_
         refine zF (eq_true (eu (n:=1) (f:=encI) (λ_=>rfl) a3.cg.aK.ag)) F λF=>?_
         refine yH F h (fD _ _) λr21 h=>?_
         refine eZ F h (λF h=>?_) λF h=>?_
         ·refine cG F h (λF h=>?_) λF h=>?_
          ·refine zGs ([2904,2905,2906],3624) F h (jc _ _ _ _) λr22 h=>?_
           refine cG F h (λF h=>?_) λF h=>?_
           ·refine zD [.q,.o,.s,.w,.q] ?_;exact fQ h
           ·exact fQ h
          ·exact fQ h
         ·exact fQ h
        ·exact fQ h
      ·exact fQ h
     ·exact fQ h
    ·refine eZ F h (λF h=>?_) λF h=>?_
     ·refine zC F h λF h=>?_
      refine zF (eq_true (eu (n:=1) (f:=encI) (λ_=>rfl) a3.cg.aK.nodes)) F λF=>?_
      refine zK F h (iB _) λr23 h=>?_
      refine eZ F h (λF h=>?_) λF h=>?_
      ·refine zC F h λF h=>?_
       refine zF (eq_true (eu (n:=1) (f:=encI) (λ_=>rfl) a3.cg.aK.ag)) F λF=>?_
       refine zK F h (iB _) λr24 h=>?_
       refine cG F h (λF h=>?_) λF h=>?_
       ·refine zD [.q,.q,.q,.q,.q,.q,.q,.q,.q,.q,.q,.q,.q,.q,.f,.q,.q,.o,.w,.s,.q] ?_;refine zC F h λF h=>?_
        refine zF (eq_true (eu (n:=1) (f:=encI) (λ_=>rfl) a3.cg.aK.nodes)) F λF=>?_
        refine yH F h (bE _) λr25 h=>?_
        refine zC F h λF h=>?_
        refine zF (eq_true (eu (n:=1) (f:=encI) (λ_=>rfl) a3.cg.aK.ag)) F λF=>?_
        refine yH F h (bE _) λr26 h=>?_
        refine zH 2904 F h (jc _ _ _ _) λr27 h=>?_
        refine cG F h (λF h=>?_) λF h=>?_
        ·refine zD [.q,.q,.q,.q,.q,.q,.q,.q,.q,.q,.q,.q] ?_;refine zC F h λF h=>?_
         refine zF (eq_true (eu (n:=1) (f:=encI) (λ_=>rfl) a3.cg.aK.nodes)) F λF=>?_
         refine yH F h (fD _ _) λr28 h=>?_
         refine zD [.q,.q,.q,.q,.q,.q,.q,.q,.q,.q,.q,.q] ?_;refine zC F h λF h=>?_
         refine zF (eq_true (eu (n:=1) (f:=encI) (λ_=>rfl) a3.cg.aK.ag)) F λF=>?_
         refine yH F h (fD _ _) λr29 h=>?_
         refine eZ F h (λF h=>?_) λF h=>?_
         ·refine cG F h (λF h=>?_) λF h=>?_
          ·refine zGs ([2904,2905,2906],3624) F h (jc _ _ _ _) λr30 h=>?_
           refine cG F h (λF h=>?_) λF h=>?_
           ·refine zD [.q,.o,.s,.w,.q] ?_;exact fQ h
           ·exact fQ h
          ·exact fQ h
         ·exact fQ h
        ·exact fQ h
       ·exact fQ h
      ·exact fQ h
     ·refine zD [.q,.q,.q,.q,.q,.q,.q,.q,.q,.q,.q,.q,.q,.q,.f,.q,.q,.o,.w,.s,.q] ?_;refine zC F h λF h=>?_
      refine zF (eq_true (eu (n:=1) (f:=encI) (λ_=>rfl) a3.cg.aK.nodes)) F λF=>?_
      refine yH F h (bE _) λr31 h=>?_
      refine zC F h λF h=>?_
      refine zF (eq_true (eu (n:=1) (f:=encI) (λ_=>rfl) a3.cg.aK.ag)) F λF=>?_
      refine yH F h (bE _) λr32 h=>?_
      refine zH 2904 F h (jc _ _ _ _) λr33 h=>?_
      refine cG F h (λF h=>?_) λF h=>?_
      ·refine zD [.q,.q,.q,.q,.q,.q,.q,.q,.q,.q,.q,.q] ?_;refine zC F h λF h=>?_
       refine zF (eq_true (eu (n:=1) (f:=encI) (λ_=>rfl) a3.cg.aK.nodes)) F λF=>?_
       refine yH F h (fD _ _) λr34 h=>?_
       refine zD [.q,.q,.q,.q,.q,.q,.q,.q,.q,.q,.q,.q] ?_;refine zC F h λF h=>?_
       refine zF (eq_true (eu (n:=1) (f:=encI) (λ_=>rfl) a3.cg.aK.ag)) F λF=>?_
       refine yH F h (fD _ _) λr35 h=>?_
       refine eZ F h (λF h=>?_) λF h=>?_
       ·refine cG F h (λF h=>?_) λF h=>?_
        ·refine zGs ([2904,2905,2906],3624) F h (jc _ _ _ _) λr36 h=>?_
         refine cG F h (λF h=>?_) λF h=>?_
         ·refine zD [.q,.o,.s,.w,.q] ?_;exact fQ h
         ·exact fQ h
        ·exact fQ h
       ·exact fQ h
      ·exact fQ h
   ·exact fQ h
  ·exact fQ h
 ·exact fQ h
end
noncomputable section
end
noncomputable section
theorem cO  (r:Bool)(h:bT  = some r):aB pw 11 [] (λv=>v = .val (.bool r)):=by
 refine aB.eV ?_;refine aC [] func11 ?_;rw[ntmps11,results11];unfold bT at h;have F:=trivial;refine zG 1256 F h uP λr1 h=>?_
 refine zG 1272 F h xT λr2 h=>?_
 refine zGs ([1256,1257,1272,1273,1274,1275,1276],1352) F h (qQ _ _ _) λr3 h=>?_
 refine zG 1624 F h (qw _ _ _ _) λr4 h=>?_
 refine eZ F h (λF h=>?_) λF h=>?_
 ·refine eZ F h (λF h=>?_) λF h=>?_
  ·refine zK F h (bQ _ _) λr5 h=>?_
   refine eZ F h (λF h=>?_) λF h=>?_
   ·refine zK F h (bQ _ _) λr6 h=>?_
    refine eZ F h (λF h=>?_) λF h=>?_
    ·refine zK F h (bQ _ _) λr7 h=>?_
     refine eZ F h (λF h=>?_) λF h=>?_
     ·refine zK F h (bQ _ _) λr8 h=>?_
      refine cG F h (λF h=>?_) λF h=>?_
      ·refine zGs ([1352,1353,1354,1355,1356,1357,1358,1359],2472) F h (jc _ _ _ _) λr9 h=>?_
       refine zGs ([2472,2473,2474],2600) F h (adF _ _ _ _) λoZ h=>?_
       refine eZ F h (λF h=>?_) λF h=>?_
       ·refine eZ F h (λF h=>?_) λF h=>?_
        ·refine zK F h (bQ _ _) λqg h=>?_
         refine eZ F h (λF h=>?_) λF h=>?_
         ·refine eZ F h (λF h=>?_) λF h=>?_
          ·refine zK F h (bQ _ _) λvM h=>?_
           exact zR h
          ·exact zR h
         ·exact zR h
        ·exact zR h
       ·exact zR h
      ·exact zR h
     ·exact zR h
    ·exact zR h
   ·exact zR h
  ·exact zR h
 ·exact zR h
end
noncomputable section
theorem oe(a0:Types)(a1:dB)(a2:cM)(r:Bool)(h:cX a0 a1 a2=some r):aB pw 5 [.agg [.aE (a0.nodes.map az),.aE (a0.ag.map aA)],.agg (iE a1),.agg (kR a2)] (λv=>v = .val (.bool r)):=by
 refine aB.eV ?_;refine aC [] func5 ?_;rw[ntmps5,results5];unfold cX at h;have F:=trivial;refine zK F h cO λr3 h=>?_
 refine eZ F h (λF h=>?_) λF h=>?_
 ·refine zK F h (o9 _ _) λr4 h=>?_
  refine eZ F h (λF h=>?_) λF h=>?_
  ·refine zK F h (qv _) λr5 h=>?_
   refine eZ F h (λF h=>?_) λF h=>?_
   ·refine zK F h (j7 _ _) λr6 h=>?_
    refine eZ F h (λF h=>?_) λF h=>?_
    ·refine zK F h (j7 _ _) λr7 h=>?_
     refine cG F h (λF h=>?_) λF h=>?_
     ·refine zG 1784 F h (qw _ _ _ _) λr8 h=>?_
      refine zG 1944 F h (sn _ _ _ _) λr9 h=>?_
      refine zK F h (p8 _ _) λoZ h=>?_
      refine eZ F h (λF h=>?_) λF h=>?_
      ·refine cG F h (λF h=>?_) λF h=>?_
       ·refine eZ F h (λF h=>?_) λF h=>?_
        ·refine zK F h (jx _ _) λqg h=>?_
         exact zR h
        ·exact zR h
       ·exact zR h
      ·exact zR h
     ·refine zK F h cO λvM h=>?_
      exact zR h
    ·refine zK F h cO λr13 h=>?_
     exact zR h
   ·refine zK F h cO λr14 h=>?_
    exact zR h
  ·refine zK F h cO λr15 h=>?_
   exact zR h
 ·refine zK F h cO λr16 h=>?_
  exact zR h
end
noncomputable section
theorem qh(a0:Types)(a1:aF)(a2:aF)(r:Bool)(h:dS a0 a1 a2=some r):aB pw 4 [.agg [.aE (a0.nodes.map az),.aE (a0.ag.map aA)],.agg (aQ a1),.agg (aQ a2)] (λv=>v = .val (.bool r)):=by
 refine aB.eV ?_;refine aC [] func4 ?_;rw[ntmps4,results4];unfold dS at h;have F:=trivial;refine zK F h cO λr3 h=>?_
 refine eZ F h (λF h=>?_) λF h=>?_
 ·refine zK F h (o9 _ _) λr4 h=>?_
  refine cG F h (λF h=>?_) λF h=>?_
  ·refine zG 1480 F h (qQ _ _ _) λr5 h=>?_
   refine zG 1624 F h (wS _ _ _) λr6 h=>?_
   refine zK F h (p8 _ _) λr7 h=>?_
   refine eZ F h (λF h=>?_) λF h=>?_
   ·refine zK F h (jN _ _) λr8 h=>?_
    refine eZ F h (λF h=>?_) λF h=>?_
    ·refine zK F h (jN _ _) λr9 h=>?_
     refine eZ F h (λF h=>?_) λF h=>?_
     ·refine cG F h (λF h=>?_) λF h=>?_
      ·refine eZ F h (λF h=>?_) λF h=>?_
       ·refine zK F h (jx _ _) λoZ h=>?_
        exact zR h
       ·exact zR h
      ·exact zR h
     ·exact zR h
    ·exact zR h
   ·exact zR h
  ·refine zK F h cO λqg h=>?_
   exact zR h
 ·refine zK F h cO λvM h=>?_
  exact zR h
end
open Go.ChangeShapes Go.WideShapes Go.ChangeAt Go.RowKit
variable{w:World}{H:Type}{enc:TypeId×Value->H}
def G9(_:ByteArray):Prop:=True
theorem d9:mB pw w enc 9 1 encS G9 :=
 .str underlying9
def G3(n:Int):Prop:=IntKind.i64.min<=n/\n<=IntKind.i64.max
theorem d3:mB pw w enc 3 1 (λn:Int=>[.val (.int .i64 n)]) G3 :=
 .aFj .i64 underlying3
def G4(_:Bool):Prop:=True
theorem d4:mB pw w enc 4 1 gY G4 :=
 .bool underlying4
def aCh(l:List ByteArray):Prop:=(∀x∈l,G9 x)/\l.length<=reachBytes
theorem d183:mB pw w enc 183 1 (λl:List ByteArray=>[.aE (l.map encS)]) aCh:=(mB.slice underlying183 (by kernel_rfl) (by decide) (bY (by kernel_rfl)) d9).map id id (λ_=>rfl) (λ_=>rfl) (λ_ h=>h)
def aCi(x:Attr):Prop:=G9 x.name/\G3 x.low/\G3 x.high/\aCh x.names/\True
theorem d185:mB pw w enc 185 4 (λx:Attr=>[.val (.string x.name),.val (.int .i64 x.low),.val (.int .i64 x.high),.aE (x.names.map encS)]) aCi:=(mB.struct underlying185 (by kernel_rfl) (.cons rfl (by kernel_rfl) d9 (.cons rfl (by kernel_rfl) d3 (.cons rfl (by kernel_rfl) d3 (.cons rfl (by kernel_rfl) d183 (.nil _)))))).map (λx=>⟨x.1,x.2.1,x.2.2.1,x.2.2.2.1⟩) (λa=>(a.name,a.low,a.high,a.names,())) (λ_=>rfl) (λ_=>rfl) (λ_ h=>h)
def aCj(l:List Attr):Prop:=(∀x∈l,aCi x)/\l.length<=reachBytes
theorem d186:mB pw w enc 186 1 (λl:List Attr=>[.aE (l.map aN)]) aCj:=(mB.slice underlying186 (by kernel_rfl) (by decide) (bY (by kernel_rfl)) d185).map id id (λ_=>rfl) (λ_=>rfl) (λ_ h=>h)
def aCk(x:qo):Prop:=G9 x.name/\G3 x.parent/\G4 x.abs/\aCj x.attrs/\True
theorem d188:mB pw w enc 188 4 (λx:qo=>[.val (.string x.name),.val (.int .i64 x.parent),.val (.bool x.abs),.aE (x.attrs.map aN)]) aCk:=(mB.struct underlying188 (by kernel_rfl) (.cons rfl (by kernel_rfl) d9 (.cons rfl (by kernel_rfl) d3 (.cons rfl (by kernel_rfl) d4 (.cons rfl (by kernel_rfl) d186 (.nil _)))))).map (λx=>⟨x.1,x.2.1,x.2.2.1,x.2.2.2.1⟩) (λa=>(a.name,a.parent,a.abs,a.attrs,())) (λ_=>rfl) (λ_=>rfl) (λ_ h=>h)
def G30(l:List qo):Prop:=(∀x∈l,aCk x)/\l.length<=reachBytes
theorem d30:mB pw w enc 30 1 (λl:List qo=>[.aE (l.map az)]) G30:=(mB.slice underlying30 (by kernel_rfl) (by decide) (bY (by kernel_rfl)) d188).map id id (λ_=>rfl) (λ_=>rfl) (λ_ h=>h)
def aCl(x:sA):Prop:=G9 x.name/\G3 x.src/\G3 x.dst/\G3 x.vE/\G3 x.qY/\G3 x.aa6/\G3 x.vF/\True
theorem d190:mB pw w enc 190 7 (λx:sA=>[.val (.string x.name),.val (.int .i64 x.src),.val (.int .i64 x.dst),.val (.int .i64 x.vE),.val (.int .i64 x.qY),.val (.int .i64 x.aa6),.val (.int .i64 x.vF)]) aCl:=(mB.struct underlying190 (by kernel_rfl) (.cons rfl (by kernel_rfl) d9 (.cons rfl (by kernel_rfl) d3 (.cons rfl (by kernel_rfl) d3 (.cons rfl (by kernel_rfl) d3 (.cons rfl (by kernel_rfl) d3 (.cons rfl (by kernel_rfl) d3 (.cons rfl (by kernel_rfl) d3 (.nil _))))))))).map (λx=>⟨x.1,x.2.1,x.2.2.1,x.2.2.2.1,x.2.2.2.2.1,x.2.2.2.2.2.1,x.2.2.2.2.2.2.1⟩) (λa=>(a.name,a.src,a.dst,a.vE,a.qY,a.aa6,a.vF,())) (λ_=>rfl) (λ_=>rfl) (λ_ h=>h)
def G31(l:List sA):Prop:=(∀x∈l,aCl x)/\l.length<=reachBytes
theorem d31:mB pw w enc 31 1 (λl:List sA=>[.aE (l.map aA)]) G31:=(mB.slice underlying31 (by kernel_rfl) (by decide) (bY (by kernel_rfl)) d190).map id id (λ_=>rfl) (λ_=>rfl) (λ_ h=>h)
def G33(x:Types):Prop:=G30 x.nodes/\G31 x.ag/\True
theorem d33:mB pw w enc 33 2 (λx:Types=>[.aE (x.nodes.map az),.aE (x.ag.map aA)]) G33:=(mB.struct underlying33 (by kernel_rfl) (.cons rfl (by kernel_rfl) d30 (.cons rfl (by kernel_rfl) d31 (.nil _)))).map (λx=>⟨x.1,x.2.1⟩) (λa=>(a.nodes,a.ag,())) (λ_=>rfl) (λ_=>rfl) (λ_ h=>h)
def G35(l:List Int):Prop:=(∀x∈l,G3 x)/\l.length<=reachBytes
theorem d35:mB pw w enc 35 1 (λl:List Int=>[.aE (l.map encI)]) G35:=(mB.slice underlying35 (by kernel_rfl) (by decide) (bY (by kernel_rfl)) d3).map id id (λ_=>rfl) (λ_=>rfl) (λ_ h=>h)
def aCm(x:Edge):Prop:=G3 x.type/\G3 x.src/\G3 x.dst/\True
theorem d165:mB pw w enc 165 3 (λx:Edge=>[.val (.int .i64 x.type),.val (.int .i64 x.src),.val (.int .i64 x.dst)]) aCm:=(mB.struct underlying165 (by kernel_rfl) (.cons rfl (by kernel_rfl) d3 (.cons rfl (by kernel_rfl) d3 (.cons rfl (by kernel_rfl) d3 (.nil _))))).map (λx=>⟨x.1,x.2.1,x.2.2.1⟩) (λa=>(a.type,a.src,a.dst,())) (λ_=>rfl) (λ_=>rfl) (λ_ h=>h)
def G36(l:List Edge):Prop:=(∀x∈l,aCm x)/\l.length<=reachBytes
theorem d36:mB pw w enc 36 1 (λl:List Edge=>[.aE (l.map ay)]) G36:=(mB.slice underlying36 (by kernel_rfl) (by decide) (bY (by kernel_rfl)) d165).map id id (λ_=>rfl) (λ_=>rfl) (λ_ h=>h)
def G38(x:au):Prop:=G35 x.nodes/\G36 x.ag/\True
theorem d38:mB pw w enc 38 2 (λx:au=>[.aE (x.nodes.map encI),.aE (x.ag.map ay)]) G38:=(mB.struct underlying38 (by kernel_rfl) (.cons rfl (by kernel_rfl) d35 (.cons rfl (by kernel_rfl) d36 (.nil _)))).map (λx=>⟨x.1,x.2.1⟩) (λa=>(a.nodes,a.ag,())) (λ_=>rfl) (λ_=>rfl) (λ_ h=>h)
def ayZ(x:pP):Prop:=G3 x.var/\G3 x.add/\True
theorem d213:mB pw w enc 213 2 (λx:pP=>[.val (.int .i64 x.var),.val (.int .i64 x.add)]) ayZ:=(mB.struct underlying213 (by kernel_rfl) (.cons rfl (by kernel_rfl) d3 (.cons rfl (by kernel_rfl) d3 (.nil _)))).map (λx=>⟨x.1,x.2.1⟩) (λa=>(a.var,a.add,())) (λ_=>rfl) (λ_=>rfl) (λ_ h=>h)
def aCn(x:aG):Prop:=G3 x.node/\G3 x.attr/\ayZ x.term/\True
theorem d215:mB pw w enc 215 4 (λx:aG=>[.val (.int .i64 x.node),.val (.int .i64 x.attr),.val (.int .i64 x.term.var),.val (.int .i64 x.term.add)]) aCn:=(mB.struct underlying215 (by kernel_rfl) (.cons rfl (by kernel_rfl) d3 (.cons rfl (by kernel_rfl) d3 (.cons rfl (by kernel_rfl) d213 (.nil _))))).map (λx=>⟨x.1,x.2.1,x.2.2.1⟩) (λa=>(a.node,a.attr,a.term,())) (λ_=>rfl) (λ_=>rfl) (λ_ h=>h)
def G51(l:List aG):Prop:=(∀x∈l,aCn x)/\l.length<=reachBytes
theorem d51:mB pw w enc 51 1 (λl:List aG=>[.aE (l.map aL)]) G51:=(mB.slice underlying51 (by kernel_rfl) (by decide) (bY (by kernel_rfl)) d215).map id id (λ_=>rfl) (λ_=>rfl) (λ_ h=>h)
def aCo(x:aH):Prop:=G3 x.kind/\ayZ x.left/\ayZ x.right/\True
theorem d217:mB pw w enc 217 5 (λx:aH=>[.val (.int .i64 x.kind),.val (.int .i64 x.left.var),.val (.int .i64 x.left.add),.val (.int .i64 x.right.var),.val (.int .i64 x.right.add)]) aCo:=(mB.struct underlying217 (by kernel_rfl) (.cons rfl (by kernel_rfl) d3 (.cons rfl (by kernel_rfl) d213 (.cons rfl (by kernel_rfl) d213 (.nil _))))).map (λx=>⟨x.1,x.2.1,x.2.2.1⟩) (λa=>(a.kind,a.left,a.right,())) (λ_=>rfl) (λ_=>rfl) (λ_ h=>h)
def G52(l:List aH):Prop:=(∀x∈l,aCo x)/\l.length<=reachBytes
theorem d52:mB pw w enc 52 1 (λl:List aH=>[.aE (l.map aM)]) G52:=(mB.slice underlying52 (by kernel_rfl) (by decide) (bY (by kernel_rfl)) d217).map id id (λ_=>rfl) (λ_=>rfl) (λ_ h=>h)
def G54(x:ak):Prop:=G38 x.graph/\G51 x.slots/\G3 x.vars/\G52 x.tests/\True
theorem d54:mB pw w enc 54 5 (λx:ak=>[.aE (x.graph.nodes.map encI),.aE (x.graph.ag.map ay),.aE (x.slots.map aL),.val (.int .i64 x.vars),.aE (x.tests.map aM)]) G54:=(mB.struct underlying54 (by kernel_rfl) (.cons rfl (by kernel_rfl) d38 (.cons rfl (by kernel_rfl) d51 (.cons rfl (by kernel_rfl) d3 (.cons rfl (by kernel_rfl) d52 (.nil _)))))).map (λx=>⟨x.1,x.2.1,x.2.2.1,x.2.2.2.1⟩) (λa=>(a.graph,a.slots,a.vars,a.tests,())) (λ_=>rfl) (λ_=>rfl) (λ_ h=>h)
def G56(x:aO):Prop:=G35 x.nodes/\G35 x.ag/\True
theorem d56:mB pw w enc 56 2 (λx:aO=>[.aE (x.nodes.map encI),.aE (x.ag.map encI)]) G56:=(mB.struct underlying56 (by kernel_rfl) (.cons rfl (by kernel_rfl) d35 (.cons rfl (by kernel_rfl) d35 (.nil _)))).map (λx=>⟨x.1,x.2.1⟩) (λa=>(a.nodes,a.ag,())) (λ_=>rfl) (λ_=>rfl) (λ_ h=>h)
def G57(x:ah):Prop:=G35 x.nodes/\G35 x.ag/\True
theorem d57:mB pw w enc 57 2 (λx:ah=>[.aE (x.nodes.map encI),.aE (x.ag.map encI)]) G57:=(mB.struct underlying57 (by kernel_rfl) (.cons rfl (by kernel_rfl) d35 (.cons rfl (by kernel_rfl) d35 (.nil _)))).map (λx=>⟨x.1,x.2.1⟩) (λa=>(a.nodes,a.ag,())) (λ_=>rfl) (λ_=>rfl) (λ_ h=>h)
inductive G60:aj->Prop
 |mk (x:aj):G3 x.kind->(∀k∈x.kids,G60 k)->x.kids.length<=reachBytes->G57 x.map->G54 x.pattern->G60 x
theorem d60:mB pw w enc 60 9 (λx:aj=>[.val (.int .i64 x.kind),.aE (x.kids.map aI),.aE (x.map.nodes.map encI),.aE (x.map.ag.map encI),.aE (x.pattern.graph.nodes.map encI),.aE (x.pattern.graph.ag.map ay),.aE (x.pattern.slots.map aL),.val (.int .i64 x.pattern.vars),.aE (x.pattern.tests.map aM)]) G60 :=
 mB.ofN λN=>by
  induction N with
  |zero=>exact zU.zero (λ_=>rfl)
  |succ N ih=>have h0:=zU.struct (w:=w) (enc:=enc) (N:=N) underlying60 (by kernel_rfl) (.cons rfl (by kernel_rfl) (d3.toN N) (.cons rfl (by kernel_rfl) (zU.slice underlying58 (by kernel_rfl) (by decide) (bY (by kernel_rfl)) (ih.map id id (λb=>(jV b).symm) (λb=>jV b) (λ_ h=>h))) (.cons rfl (by kernel_rfl) (d57.toN N) (.cons rfl (by kernel_rfl) (d54.toN N) (.nil _)))));exact zU.map (λx:Int×(List aj)×ah×ak×Unit=>⟨x.1,x.2.1,x.2.2.1,x.2.2.2.1⟩) (λa=>(a.kind,a.kids,a.map,a.pattern,())) (λ_=>rfl) (λ_=>rfl) (λx h=>.mk _ h.1 h.2.1.1 h.2.1.2 h.2.2.1 h.2.2.2.1) h0
def G62(x:aF):Prop:=G9 x.name/\G54 x.left/\G54 x.right/\G56 x.keep/\G57 x.into/\G4 x.injective/\G60 x.condition/\True
theorem d62:mB pw w enc 62 25 (λx:aF=>[.val (.string x.name),.aE (x.left.graph.nodes.map encI),.aE (x.left.graph.ag.map ay),.aE (x.left.slots.map aL),.val (.int .i64 x.left.vars),.aE (x.left.tests.map aM),.aE (x.right.graph.nodes.map encI),.aE (x.right.graph.ag.map ay),.aE (x.right.slots.map aL),.val (.int .i64 x.right.vars),.aE (x.right.tests.map aM),.aE (x.keep.nodes.map encI),.aE (x.keep.ag.map encI),.aE (x.into.nodes.map encI),.aE (x.into.ag.map encI),.val (.bool x.injective),.val (.int .i64 x.condition.kind),.aE (x.condition.kids.map aI),.aE (x.condition.map.nodes.map encI),.aE (x.condition.map.ag.map encI),.aE (x.condition.pattern.graph.nodes.map encI),.aE (x.condition.pattern.graph.ag.map ay),.aE (x.condition.pattern.slots.map aL),.val (.int .i64 x.condition.pattern.vars),.aE (x.condition.pattern.tests.map aM)]) G62:=(mB.struct underlying62 (by kernel_rfl) (.cons rfl (by kernel_rfl) d9 (.cons rfl (by kernel_rfl) d54 (.cons rfl (by kernel_rfl) d54 (.cons rfl (by kernel_rfl) d56 (.cons rfl (by kernel_rfl) d57 (.cons rfl (by kernel_rfl) d4 (.cons rfl (by kernel_rfl) d60 (.nil _))))))))).map (λx=>⟨x.1,x.2.1,x.2.2.1,x.2.2.2.1,x.2.2.2.2.1,x.2.2.2.2.2.1,x.2.2.2.2.2.2.1⟩) (λa=>(a.name,a.left,a.right,a.keep,a.into,a.injective,a.condition,())) (λ_=>rfl) (λ_=>rfl) (λ_ h=>h)
set_option maxRecDepth 100000 in
theorem apV:laidOutB Tryz.checked.prog=true:=by kernel_rfl
def G71(x:dB):Prop:=G62 x.a/\G62 x.b/\True
theorem d71:mB pw w enc 71 50 (λx:dB=>[.val (.string x.a.name),.aE (x.a.left.graph.nodes.map encI),.aE (x.a.left.graph.ag.map ay),.aE (x.a.left.slots.map aL),.val (.int .i64 x.a.left.vars),.aE (x.a.left.tests.map aM),.aE (x.a.right.graph.nodes.map encI),.aE (x.a.right.graph.ag.map ay),.aE (x.a.right.slots.map aL),.val (.int .i64 x.a.right.vars),.aE (x.a.right.tests.map aM),.aE (x.a.keep.nodes.map encI),.aE (x.a.keep.ag.map encI),.aE (x.a.into.nodes.map encI),.aE (x.a.into.ag.map encI),.val (.bool x.a.injective),.val (.int .i64 x.a.condition.kind),.aE (x.a.condition.kids.map aI),.aE (x.a.condition.map.nodes.map encI),.aE (x.a.condition.map.ag.map encI),.aE (x.a.condition.pattern.graph.nodes.map encI),.aE (x.a.condition.pattern.graph.ag.map ay),.aE (x.a.condition.pattern.slots.map aL),.val (.int .i64 x.a.condition.pattern.vars),.aE (x.a.condition.pattern.tests.map aM),.val (.string x.b.name),.aE (x.b.left.graph.nodes.map encI),.aE (x.b.left.graph.ag.map ay),.aE (x.b.left.slots.map aL),.val (.int .i64 x.b.left.vars),.aE (x.b.left.tests.map aM),.aE (x.b.right.graph.nodes.map encI),.aE (x.b.right.graph.ag.map ay),.aE (x.b.right.slots.map aL),.val (.int .i64 x.b.right.vars),.aE (x.b.right.tests.map aM),.aE (x.b.keep.nodes.map encI),.aE (x.b.keep.ag.map encI),.aE (x.b.into.nodes.map encI),.aE (x.b.into.ag.map encI),.val (.bool x.b.injective),.val (.int .i64 x.b.condition.kind),.aE (x.b.condition.kids.map aI),.aE (x.b.condition.map.nodes.map encI),.aE (x.b.condition.map.ag.map encI),.aE (x.b.condition.pattern.graph.nodes.map encI),.aE (x.b.condition.pattern.graph.ag.map ay),.aE (x.b.condition.pattern.slots.map aL),.val (.int .i64 x.b.condition.pattern.vars),.aE (x.b.condition.pattern.tests.map aM)]) G71:=(mB.struct underlying71 (by kernel_rfl) (.cons rfl (by kernel_rfl) d62 (.cons rfl (by kernel_rfl) d62 (.nil _)))).map (λx=>⟨x.1,x.2.1⟩) (λa=>(a.a,a.b,())) (λ_=>rfl) (λ_=>rfl) (λ_ h=>h)
def G73(x:cM):Prop:=G38 x.graph/\G57 x.left/\G57 x.right/\True
theorem d73:mB pw w enc 73 6 (λx:cM=>[.aE (x.graph.nodes.map encI),.aE (x.graph.ag.map ay),.aE (x.left.nodes.map encI),.aE (x.left.ag.map encI),.aE (x.right.nodes.map encI),.aE (x.right.ag.map encI)]) G73:=(mB.struct underlying73 (by kernel_rfl) (.cons rfl (by kernel_rfl) d38 (.cons rfl (by kernel_rfl) d57 (.cons rfl (by kernel_rfl) d57 (.nil _))))).map (λx=>⟨x.1,x.2.1,x.2.2.1⟩) (λa=>(a.graph,a.left,a.right,())) (λ_=>rfl) (λ_=>rfl) (λ_ h=>h)
end Go.Proofs.YtldllhbhnpjlcaaGreat
namespace Go.bP
section
variable{σ O α:Type}{Q:O->Prop}
end
def yL{α β:Type}(o:Option α)(x:α->β)(y:β):β:=match o with
 |some a=>x a
 |none=>y
section
variable{σ O α β:Type}
theorem ahQ{f:Nat->Unit->(Unit->Option O)->(Unit->Option O)->Option O}{K:Unit->Option O}(p:Nat->Bool)(x:Nat->Option O):∀ (k i:Nat),
  (∀j,i<=j->j<i+k->∀eF,f j () eF K=cond (p j) (eF ()) (x j))->bH f k i () K=yL ((List.range' i k).find? (λj=>!p j)) x (K ())
 |0,i,_=>rfl
 |k+1,i,h=>by
  rw[bH,h i (Nat.le_refl _) (by omega),List.range'_succ,List.find?_cons];cases hp:p i with
  |false=>rfl
  |true =>
   have:=ahQ p x k (i+1) λj h1 h2 eF=>h j (by omega) (by omega) eF
   simpa using this
theorem nC{f:Nat->Unit->(Unit->Option O)->(Unit->Option O)->Option O}{K:Unit->Option O}{n:Nat}(p:Nat->Bool)(x:Nat->Option O)(h:∀j,j<n->∀eF,f j () eF K=cond (p j) (eF ()) (x j)) :
  bH f (n-0) 0 () K=yL ((List.range n).find? (λj=>!p j)) x (K ()):=by
 rw[ahQ p x (n-0) 0 λj _ h2 eF=>h j (by omega) eF,Nat.sub_zero,List.range_eq_range']
theorem abg{f:Nat->Unit->(Unit->Option O)->(Unit->Option O)->Option O}{K:Unit->Option O}(l:List α)(p:α->Bool)(x:α->Option O)(h:∀i (hi:i<l.length) eF,f i () eF K=cond (p l[i]) (eF ()) (x l[i])):∀ (k i:Nat),i+k=l.length ->
  bH f k i () K=yL ((l.drop i).find? (λa=>!p a)) x (K ())
 |0,i,hk=>by rw[List.drop_eq_nil_of_le (by omega)];rfl
 |k+1,i,hk=>by
  rw[bH,h i (by omega),List.drop_eq_getElem_cons (by omega),List.find?_cons];cases hp:p l[i] with
  |false=>rfl
  |true=>have:=abg l p x h k (i+1) (by omega);simpa using this
theorem fM{f:Nat->Unit->(Unit->Option O)->(Unit->Option O)->Option O}{K:Unit->Option O}(l:List α)(p:α->Bool)(x:α->Option O)(h:∀i (hi:i<l.length) eF,f i () eF K=cond (p l[i]) (eF ()) (x l[i])) :
  bH f (l.length-0) 0 () K=yL (l.find? (λa=>!p a)) x (K ()):=by
 have:=abg l p x h (l.length-0) 0 (by omega);simpa using this
theorem abh{f:Nat->σ->(σ->Option O)->(σ->Option O)->Option O}{K:σ->Option O}(l:List α)(g:σ->α->σ)(Inv:Nat->σ->Prop)(h:∀i (hi:i<l.length) s,Inv i s->(∀eF,f i s eF K=eF (g s l[i]))/\Inv (i+1) (g s l[i])) :
  ∀ (k i:Nat) (s:σ),i+k=l.length->Inv i s->bH f k i s K=K ((l.drop i).foldl g s)/\Inv l.length ((l.drop i).foldl g s)
 |0,i,s,hk,hs=>by rw[List.drop_eq_nil_of_le (by omega)];exact⟨rfl,by rw[show l.length=i by omega];exact hs⟩
 |k+1,i,s,hk,hs=>by obtain⟨h1,h2⟩:=h i (by omega) s hs;rw[bH,h1,List.drop_eq_getElem_cons (by omega),List.foldl_cons];exact abh l g Inv h k (i+1) _ (by omega) h2
theorem wT{f:Nat->σ->(σ->Option O)->(σ->Option O)->Option O}{K:σ->Option O}{s:σ}(l:List α)(g:σ->α->σ)(Inv:Nat->σ->Prop)(h0:Inv 0 s)(h:∀i (hi:i<l.length) s,Inv i s->(∀eF,f i s eF K=eF (g s l[i]))/\Inv (i+1) (g s l[i])) :
  bH f (l.length-0) 0 s K=K (l.foldl g s)/\Inv l.length (l.foldl g s):=by
 have:=abh l g Inv h (l.length-0) 0 s (by omega) h0;simpa using this
theorem yd(l:List α)(g:α->β):∀s:List β,l.foldl (λs a=>s++[g a]) s=s++l.map g:=by
 induction l with
 |nil=>intro s;simp
 |cons a l ih=>intro s;rw[List.foldl_cons,ih];simp
theorem dA{p:Prop} [Decidable p]{x:Option O}(h:p):cA p x=x:=by unfold cA;rw[if_pos h]
theorem amd{x:α}{k:α->Option O} : thn (some x) k=k x:=rfl
theorem aD{x:Option α}{y:α}{k:α->Option O}(h:x=some y):thn x k=k y:=by rw[h];rfl
theorem eS{l:List α}{i:Nat}{k:α->Option O}(h:i<l.length):thn l[i]? k=k l[i]:=by rw[List.getElem?_eq_getElem h];rfl
theorem rj{l:List α}{i:Int}{k:α->Option O}(h0:0<=i)(h:i.toNat<l.length):thn (jd l i) k=k (l[i.toNat]'h):=by unfold jd;rw[if_pos h0,List.getElem?_eq_getElem h];rfl
theorem aP{p:Prop} [Decidable p]{x y:Option O} : cond (decide p) x y=if p then x else y:=by by_cases h:p<;>simp[h]
theorem asT{b:Bool}{x y:Option O} : cond (!b) x y=cond b y x:=by cases b<;>rfl
def agT(e:α->Int)(l:List α):Int:=yL (l.find? (λa=>!decide (e a=0))) e 0
theorem ahR{e:α->Int}{l:List α} : agT e l=0↔∀a∈l,e a=0:=by
 unfold agT yL;split
 ·rename_i a h;have h1:=List.find?_some h;have h2:=List.mem_of_find?_eq_some h;simp only[Bool.not_eq_true',decide_eq_false_iff_not] at h1;exact⟨λh=>absurd h h1,λh=>h a h2⟩
 ·rename_i h;simp only[List.find?_eq_none,Bool.not_eq_true',decide_eq_false_iff_not,Decidable.not_not] at h;exact⟨λ_=>h,λ_=>rfl⟩
theorem qR{e:α->Int}{l:List α}{K:Option Int}(hK:K=some 0):yL (l.find? (λa=>!decide (e a=0))) (λa=>some (e a)) K=some (agT e l):=by subst hK;unfold agT yL;split<;>rfl
theorem iw{p:α->Bool}{l:List α}{x y:β} : yL (l.find? (λa=>!p a)) (λ_=>x) y=if l.all p=true then y else x:=by
 unfold yL;split
 ·rename_i a h;have h1:=List.find?_some h;have h2:=List.mem_of_find?_eq_some h;rw[if_neg];intro h3;have:=List.all_eq_true.1 h3 a h2;simp[this] at h1
 ·rename_i h;rw[if_pos];simpa using h
def af6(q:α->Bool)(l:List α):Int:=match l.findIdx? q with
 |some i=>i
 |none=>-1
theorem ye{q:α->Bool}{l:List α} : decide (0<=af6 q l)=l.any q:=by
 unfold af6;cases h:l.findIdx? q with
 |none =>
  have:=List.findIdx?_eq_none_iff.1 h;have h2:l.any q=false:=by simpa using this
  rw[h2];rfl
 |some i =>
  have h1:l.any q=true:=by have:=List.findIdx?_eq_some_iff_getElem.1 h;obtain⟨hi,hq,_⟩:=this;exact List.any_eq_true.2 ⟨_,pz hi,hq⟩
  rw[h1];simp
theorem p9{f:Nat->Unit->(Unit->Option Int)->(Unit->Option Int)->Option Int}{K:Unit->Option Int}(l:List α)(q:α->Bool)(h:∀i (hi:i<l.length) eF,f i () eF K=cond (q l[i]) (some (i:Int)) (eF ()))(hK:K ()=some (-1)) :
  bH f (l.length-0) 0 () K=some (af6 q l):=by
 have key:∀ (k i:Nat),i+k=l.length->bH f k i () K=some (match (l.drop i).findIdx? q with|some j=>((i+j:Nat):Int)|none=>-1):=by
  intro k
  induction k with
  |zero=>intro i hk;rw[List.drop_eq_nil_of_le (by omega)];exact hK
  |succ k ih =>
   intro i hk;rw[bH,h i (by omega),List.drop_eq_getElem_cons (by omega),List.findIdx?_cons];cases hq:q l[i] with
   |true=>simp
   |false =>
    have:=ih (i+1) (by omega);rw[cond_false,this];cases (l.drop (i+1)).findIdx? q with
    |none=>rfl
    |some j=>simp only[Option.map_some,Bool.false_eq_true,if_false,cm];rw[show i+1+j=i+(j+1) by omega]
 have:=key (l.length-0) 0 (by omega);rw[this,List.drop_zero];unfold af6;cases l.findIdx? q<;>simp
end
end Go.bP
namespace Go.Proofs.YtldllhbhnpjlcaaGreat
open Go.bP
theorem aaX{α:Type} [Inhabited α]{l:List α}{x:α}(h:x∈l):∃j,j<l.length/\l.getD j default=x:=by obtain⟨j,hj,rfl⟩:=List.mem_iff_getElem.1 h;exact⟨j,hj,by simp[hj]⟩
theorem bk{n:Nat}(h:n<=4000000000000000000):n<=fuel:=by unfold fuel;omega
theorem yf{l:List Int}{p:Int->Option Bool}(q:Int->Bool)(hl:l.length<=1000000)(hp:∀x∈l,p x=some (q x)):ia l p=some (af6 q l):=by unfold ia;rw[dA (bk (by omega))];refine p9 l q (λi hi eF=>?_) rfl;rw[eS hi,aD (hp _ (pz hi))]
theorem wU{l:List Edge}{p:Edge->Option Bool}(q:Edge->Bool)(hl:l.length<=1000000)(hp:∀x∈l,p x=some (q x)):gI l p=some (af6 q l):=by unfold gI;rw[dA (bk (by omega))];refine p9 l q (λi hi eF=>?_) rfl;rw[eS hi,aD (hp _ (pz hi))]
theorem wV{l:List aG}{p:aG->Option Bool}(q:aG->Bool)(hl:l.length<=1000000)(hp:∀x∈l,p x=some (q x)):gJ l p=some (af6 q l):=by unfold gJ;rw[dA (bk (by omega))];refine p9 l q (λi hi eF=>?_) rfl;rw[eS hi,aD (hp _ (pz hi))]
theorem sq{l:List aj}{p:aj->Option Bool}(q:aj->Bool)(hl:l.length<=1000000)(hp:∀x∈l,p x=some (q x)):eH l p=some (af6 q l):=by unfold eH;rw[dA (bk (by omega))];refine p9 l q (λi hi eF=>?_) rfl;rw[eS hi,aD (hp _ (pz hi))]
theorem iI{l:List Int}{p:Int->Option Bool}(q:Int->Bool)(hl:l.length<=1000000)(hp:∀x∈l,p x=some (q x)):cy l p=some (l.any q):=by unfold cy;rw[aD (yf q hl hp),ye]
theorem nD{l:List Edge}{p:Edge->Option Bool}(q:Edge->Bool)(hl:l.length<=1000000)(hp:∀x∈l,p x=some (q x)):dx l p=some (l.any q):=by unfold dx;rw[aD (wU q hl hp),ye]
theorem nH{l:List aG}{p:aG->Option Bool}(q:aG->Bool)(hl:l.length<=1000000)(hp:∀x∈l,p x=some (q x)):dy l p=some (l.any q):=by unfold dy;rw[aD (wV q hl hp),ye]
theorem qi{l:List aj}{p:aj->Option Bool}(q:aj->Bool)(hl:l.length<=1000000)(hp:∀x∈l,p x=some (q x)):bF l p=some (l.any q):=by unfold bF;rw[aD (sq q hl hp),ye]
theorem aai(n a b:Int):eC n a b=some (decide (a<=n)&&decide (n<=b)):=by unfold eC;cases decide (a<=n)<;>rfl
theorem vR{t:Types}(h:jB t):kS t=some (cZ t):=qt h
theorem nI{t:Types}(h:jB t):gH t=some (cZ t):=qt h
theorem kW{g:au}(h:rD g):eL g=some (cL g):=qt h.big
theorem iy{g:au}(h:rD g):bM g=some (cL g):=qt h.big
theorem awS{s:ByteArray}(h:s.size<=1000000):tS s=some (kX s):=qt h
theorem adG{s:ByteArray}(h:s.size<=1000000):kU s=some (kX s):=qt h
theorem aAD{t:Types}(h:jB t)(e a b:Int):xH t e a b=some (n7 t e a b):=qt h
theorem ay0{t:Types}(h:jB t)(e a b:Int):mc t e a b=some (n7 t e a b):=qt h
def pg(n:Int)(x:pP):Bool:=decide (-1<=x.var)&&(decide (x.var<n)&&(decide (-1000000<=x.add)&&decide (x.add<=1000000)))
def acz(n:Int)(x:aH):Int:=if x.kind=1\/x.kind=2 then (if (pg n x.left&&pg n x.right)=true then 0 else 6) else 1
def uw(n:Int)(l:List aH):Int:=if n<0\/12<n then 6 else if 40<l.length then 3 else agT (acz n) l
theorem aAE(n:Int)(x:pP):fY n x=some (pg n x):=by unfold fY pg;cases decide (-1<=x.var)<;>cases decide (x.var<n)<;>cases decide (-1000000<=x.add)<;>rfl
theorem asU(n:Int)(x:pP):c9 n x=some (if pg n x=true then 0 else 6):=by
 unfold c9 pg;simp only[aP,Bool.and_eq_true,decide_eq_true_eq];by_cases h1:x.var < -1
 ·rw[if_pos h1,if_neg (by omega)]
 rw[if_neg h1];by_cases h2:n<=x.var
 ·rw[if_pos h2,if_neg (by omega)]
 rw[if_neg h2];by_cases h3:x.add < -1000000
 ·rw[if_pos h3,if_neg (by omega)]
 rw[if_neg h3];by_cases h4:1000000<x.add
 ·rw[if_pos h4,if_neg (by omega)]
 ·rw[if_neg h4,if_pos (by omega)]
theorem aCp(n:Int)(x:aH):lG n x=some (acz n x):=by
 unfold lG acz;simp only[aD (aAE n _),aP];by_cases h1:x.kind=1
 ·rw[if_pos h1,if_pos (.inl h1)];cases pg n x.left<;>cases pg n x.right<;>rfl
 ·rw[if_neg h1];by_cases h2:x.kind=2
  ·rw[if_pos h2,if_pos (.inr h2)];cases pg n x.left<;>cases pg n x.right<;>rfl
  ·rw[if_neg h2,if_neg (by omega)]
theorem aAF(n:Int)(x:aH):iM n x=some (acz n x):=by
 unfold iM acz;simp only[aD (asU n _),aP];by_cases h1:x.kind=1
 ·rw[if_pos h1,if_pos (show x.kind=1\/x.kind=2 from .inl h1)];cases pg n x.left<;>cases pg n x.right<;>rfl
 ·rw[if_neg h1];by_cases h2:x.kind=2
  ·rw[if_pos h2,if_pos (show x.kind=1\/x.kind=2 from .inr h2)];cases pg n x.left<;>cases pg n x.right<;>rfl
  ·rw[if_neg h2,if_neg (show ¬ (x.kind=1\/x.kind=2) by omega)]
theorem ay1(n:Int)(l:List aH)(hl:l.length<=1000000):jY n l=some (uw n l):=by
 unfold jY uw;simp only[aP];by_cases h1:n<0
 ·rw[if_pos h1,if_pos (.inl h1)]
 rw[if_neg h1];by_cases h2:12<n
 ·rw[if_pos h2,if_pos (.inr h2)]
 rw[if_neg h2,if_neg (show ¬ (n<0\/12<n) by omega)];by_cases h3:40<l.length
 ·rw[if_pos (show (40:Int)<((l.length:Nat):Int) by omega),if_pos h3]
 rw[if_neg (show ¬ (40:Int)<((l.length:Nat):Int) by omega),if_neg h3,dA (bk (by omega))];rw[fM l (λx=>decide (acz n x=0)) (λx=>some (acz n x)) (λi hi eF=>by rw[eS hi,aD (aCp n _),<-aP])];exact qR rfl
theorem awT(n:Int)(l:List aH)(hl:l.length<=1000000):gN n l=some (uw n l):=by
 unfold gN uw;simp only[aP];by_cases h1:n<0
 ·rw[if_pos h1,if_pos (.inl h1)]
 rw[if_neg h1];by_cases h2:12<n
 ·rw[if_pos h2,if_pos (.inr h2)]
 rw[if_neg h2,if_neg (show ¬ (n<0\/12<n) by omega)];by_cases h3:40<l.length
 ·rw[if_pos (show (40:Int)<((l.length:Nat):Int) by omega),if_pos h3]
 rw[if_neg (show ¬ (40:Int)<((l.length:Nat):Int) by omega),if_neg h3,dA (bk (by omega))];rw[fM l (λx=>decide (acz n x=0)) (λx=>some (acz n x)) (λi hi eF=>by rw[eS hi,aD (aAF n _),<-aP])];exact qR rfl
def dI(t:Types)(g:au):Bool:=g.nodes.all (λn=>decide (n<t.nodes.length))&&g.ag.all (λe=>decide (e.type<t.ag.length))
theorem rN{α:Type}(l:List α)(p:α->Bool):l.any (λx=>!p x) = !l.all p:=by
 induction l with
 |nil=>rfl
 |cons a l ih=>simp[ih]
theorem ahS(t:Types)(l:List Int):(l.any λn=>decide (((t.nodes.length:Nat):Int)<=n)) = !l.all λn=>decide (n<t.nodes.length):=by
 rw[<-rN];congr 1;funext n;by_cases h:n<t.nodes.length
 ·simp[h,Int.not_le.2 h]
 ·simp[h,Int.not_lt.1 h]
theorem ahT(t:Types)(l:List Edge):(l.any λe=>decide (((t.ag.length:Nat):Int)<=e.type)) = !l.all λe=>decide (e.type<t.ag.length):=by
 rw[<-rN];congr 1;funext n;by_cases h:n.type<t.ag.length
 ·simp[h,Int.not_le.2 h]
 ·simp[h,Int.not_lt.1 h]
theorem ay2(t:Types){g:au}(hg:rD g):pR t g=some (dI t g):=by have h1:=hg.nodes;have h2:=hg.ag;unfold pR dI;rw[aD (iI (p:=λx=>nu x ⟨t.nodes,t.ag⟩) (λn=>decide (((t.nodes.length:Nat):Int)<=n)) (by omega) λx _=>rfl),aD (nD (p:=λx=>nv x ⟨t.nodes,t.ag⟩) (λe=>decide (((t.ag.length:Nat):Int)<=e.type)) (by omega) λx _=>rfl)];rw[ahS,ahT];cases g.nodes.all _<;>simp
theorem rE.nn{g:au}(h:rE g):(∀n∈g.nodes,0<=n)/\∀e∈g.ag,0<=e.type:=by
 refine⟨λn hn=>?_,λe he=>?_⟩
 ·obtain⟨j,hj,rfl⟩:=aaX hn;exact (h.kind j hj).1
 ·obtain⟨j,hj,rfl⟩:=aaX he;exact (h.oK j hj).1.1
theorem ame(t:Types){g:au}(hg:rE g):ff t g=some (dI t g):=by
 have h1:=hg.nodes;have h2:=hg.ag;obtain⟨h3,h4⟩:=hg.nn;unfold ff dI;rw[dA (bk (by omega)),dA (bk (by omega))];rw[fM g.nodes (λn=>decide (n<t.nodes.length)) (λ_=>some false) (λi hi eF=>?_),iw]
 ·rw[fM g.ag (λe=>decide (e.type<t.ag.length)) (λ_=>some false) (λi hi eF=>?_),iw]
  ·cases g.nodes.all _<;>cases g.ag.all _<;>rfl
  ·rw[eS hi];have:=h4 _ (pz hi);rw[aP,if_neg (by omega),aP,aP];by_cases h:g.ag[i].type<t.ag.length
   ·rw[if_pos h,if_neg (by omega)]
   ·rw[if_neg h,if_pos (by omega)]
 ·rw[eS hi];have:=h3 _ (pz hi);rw[aP,if_neg (by omega),aP,aP];by_cases h:g.nodes[i]<t.nodes.length
  ·rw[if_pos h,if_neg (by omega)]
  ·rw[if_neg h,if_pos (by omega)]
def uz(t:Types)(g:au)(n:Int):List Attr:=aR t (g.nodes.getD n.toNat default).toNat
def yM(t:Types)(g:au)(vars:Int)(s:aG):Bool:=(decide (0<=s.node)&&decide (s.node<g.nodes.length))&&((decide (0<=s.attr)&&decide (s.attr<(uz t g s.node).length))&&pg vars s.term)
theorem wW{t:Types}{g:au}(h:dI t g=true)(ho:rE g){i:Nat}(hi:i<g.nodes.length):0<=g.nodes[i]/\g.nodes[i]<t.nodes.length:=by unfold dI at h;rw[Bool.and_eq_true] at h;have h1:=List.all_eq_true.1 h.1 _ (pz hi);exact⟨ho.nn.1 _ (pz hi),bY h1⟩
theorem ao0{t:Types}(ht:yQ t){a:Int}(h0:0<=a)(h1:a<t.nodes.length):(aR t a.toNat).length<=1000:=by have:=lV ht.few (a:=a.toNat) (by omega) (ht.par' (by omega));omega
theorem bI{α:Type} [Inhabited α]{l:List α}{i:Nat}(h:i<l.length):l.getD i default=l[i]:=by simp[h]
theorem apW{t:Types}(ht:yQ t){a:Int}(h:0<=a/\a<t.nodes.length):oB t a=some (aR t a.toNat,0):=qt ⟨ht,h.1,h.2⟩
theorem amf{t:Types}(ht:yQ t){a:Int}(h:0<=a/\a<t.nodes.length):jr t a=some (aR t a.toNat,0):=qt ⟨ht,h.1,h.2⟩
def ad7(t:Types)(g:au)(n a:Int):Bool:=(decide (0<=n)&&decide (n<g.nodes.length))&&(decide (0<=a)&&decide (a<(uz t g n).length))
theorem aAG{t:Types}(ht:yQ t){p:ak}(hg:rE p.graph)(hb:dI t p.graph=true)(s:aG):∃x,lF t p s=some (x,ad7 t p.graph s.node s.attr):=by
 have h1:=hg.nodes;unfold lF ad7;rw[aD (aai _ _ _),gm (by omega)];have e1:decide (s.node<=((p.graph.nodes.length:Nat):Int)-1)=decide (s.node<(p.graph.nodes.length:Int)):=by congr 1;exact propext (by omega)
 rw[e1];cases hn:decide (0<=s.node) with
 |false=>exact⟨_,rfl⟩
 |true =>
  cases hn2:decide (s.node<(p.graph.nodes.length:Int)) with
  |false=>exact⟨_,rfl⟩
  |true =>
   have hn:=bY hn;have hn2:=bY hn2;have hi:s.node.toNat<p.graph.nodes.length:=by omega
   have hk:=wW hb hg hi;rw[Bool.and_self,cond_true,rj hn hi,aD (apW ht hk),aD (aai _ _ _)];have hlen:=ao0 ht hk.1 hk.2;simp only[uz,bI hi,Bool.true_and];rw[gm (by omega)];have e2:decide (s.attr<=(((aR t (p.graph.nodes[s.node.toNat]).toNat).length:Nat):Int)-1)=decide (s.attr<((aR t (p.graph.nodes[s.node.toNat]).toNat).length:Int)):=by congr 1;exact propext (by omega)
   rw[e2];cases ha:decide (0<=s.attr) with
   |false=>exact⟨_,rfl⟩
   |true =>
    cases ha2:decide (s.attr<((aR t (p.graph.nodes[s.node.toNat]).toNat).length:Int)) with
    |false=>exact⟨_,rfl⟩
    |true=>have ha:=bY ha;have ha2:=bY ha2;rw[Bool.and_self,cond_true,rj ha (by omega)];exact⟨_,rfl⟩
theorem ay3{t:Types}(ht:yQ t){p:ak}(hg:rE p.graph)(hb:dI t p.graph=true)(n a:Int):∃x,ig t p n a=some (x,ad7 t p.graph n a):=by
 unfold ig ad7;simp only[aP];by_cases hn:n<0
 ·rw[if_pos hn,jz (by omega:¬ 0<=n)];exact⟨_,rfl⟩
 rw[if_neg hn,c7 (by omega:0<=n)];by_cases hn2:(p.graph.nodes.length:Int)<=n
 ·rw[if_pos hn2,jz (by omega:¬ n<(p.graph.nodes.length:Int))];exact⟨_,rfl⟩
 rw[if_neg hn2,c7 (by omega:n<(p.graph.nodes.length:Int))];have hi:n.toNat<p.graph.nodes.length:=by omega
 have hk:=wW hb hg hi;rw[rj (by omega) hi,aD (amf ht hk),if_pos rfl];simp only[uz,bI hi,Bool.true_and];by_cases ha:a<0
 ·rw[if_pos ha,jz (by omega:¬ 0<=a)];exact⟨_,rfl⟩
 rw[if_neg ha,c7 (by omega:0<=a)];by_cases ha2:((aR t (p.graph.nodes[n.toNat]).toNat).length:Int)<=a
 ·rw[if_pos ha2,jz (by omega:¬ a<((aR t (p.graph.nodes[n.toNat]).toNat).length:Int))];exact⟨_,rfl⟩
 rw[if_neg ha2,c7 (by omega:a<((aR t (p.graph.nodes[n.toNat]).toNat).length:Int)),rj (by omega) (by omega)];exact⟨_,rfl⟩
theorem amg(t:Types)(g:au)(vars:Int)(s:aG):yM t g vars s=(ad7 t g s.node s.attr&&pg vars s.term):=by unfold yM ad7;cases decide (0<=s.node)<;>cases decide (s.node<(g.nodes.length:Int))<;>cases decide (0<=s.attr)<;>cases decide (s.attr<((uz t g s.node).length:Int))<;>rfl
structure agU(p:ak):Prop where
 graph:rD p.graph
 slots:p.slots.length<=15
 tests:p.tests.length<=15
def acA(l:List aG)(v:Int):Bool:=l.any λs=>decide (s.term.var=v)
def adH(p:ak)(lo:Nat):Bool:=(List.range' lo (p.vars.toNat-lo)).all λv:Nat=>acA p.slots (v:Int)
def rO(t:Types)(p:ak):Int :=
 if (cZ t).2≠0 then (cZ t).2 else if cL p.graph≠0 then cL p.graph else if dI t p.graph=false then 13
 else if p.vars<0\/12<p.vars then 6 else if 10<p.slots.length\/10<p.tests.length then 3
 else if p.slots.all (yM t p.graph p.vars)=false then 6 else if uw p.vars p.tests≠0 then uw p.vars p.tests
 else if adH p 0=false then 9 else 0
theorem awU(p:ak)(hp:p.slots.length<=1000000)(v:Int):gp p v=some (acA p.slots v):=by
 unfold gp acA;rw[dA (bk (by omega))];rw[fM p.slots (λs=>!decide (s.term.var=v)) (λ_=>some true) (λi hi eF=>by
  rw[eS hi];cases decide (p.slots[i].term.var=v)<;>rfl),iw]
 rw[<-Bool.not_not (List.any _ _),<-List.not_any_eq_all_not];simp only[Bool.not_not];cases p.slots.any λs=>decide (s.term.var=v)<;>simp
def qa(n:Nat)(l:List aG):List Bool:=(List.range n).map λv:Nat=>acA l (v:Int)
theorem ahU(n:Nat)(l:List aG):(qa n l).length=n:=by simp[qa]
theorem ao2(n:Nat)(l:List aG)(s:aG)(h:s.term.var<n)(h0:0<=s.term.var):(qa n l).set s.term.var.toNat true=qa n (l++[s]):=by
 refine List.ext_getElem (by simp[qa]) λi h1 h2=>?_
 simp only[qa,List.getElem_set,List.getElem_map,List.getElem_range,acA,List.any_append,List.any_cons,List.any_nil,Bool.or_false];by_cases hi:s.term.var.toNat=i
 ·rw[if_pos hi,c7 (by omega:s.term.var=(i:Int)),Bool.or_true]
 ·rw[if_neg hi,jz (by omega:¬ s.term.var=(i:Int)),Bool.or_false]
theorem asV(n:Nat)(l:List aG)(s:aG)(h0:¬ 0<=s.term.var):qa n l=qa n (l++[s]):=by
 refine List.ext_getElem (by simp[qa]) λi h1 h2=>?_
 simp only[qa,List.getElem_map,List.getElem_range,acA,List.any_append,List.any_cons,List.any_nil,Bool.or_false];rw[jz (by omega:¬ s.term.var=(i:Int)),Bool.or_false]
theorem aey(l:List Bool)(hl:l.length<=1000000):ic l false=some (!l.all id):=by
 unfold ic lp;rw[dA (bk (by omega))];rw[aD (p9 l (λb=>!b) (λi hi eF=>by
  rw[eS hi];cases l[i]<;>rfl) rfl),ye]
 congr 1
 induction l with
 |nil=>rfl
 |cons a l ih=>simp only[List.length_cons] at hl;rw[List.any_cons,List.all_cons,ih (by omega)];cases a<;>simp
theorem asW(n:Nat)(l:List aG):(qa n l).all id=(List.range n).all λv:Nat=>acA l (v:Int):=by unfold qa;rw[List.all_map];rfl
theorem asX{t:Types}{g:au}{n:Int}{s:aG}(h:yM t g n s=true) : -1<=s.term.var/\s.term.var<n:=by unfold yM pg at h;simp only[Bool.and_eq_true,decide_eq_true_eq] at h;omega
theorem ao3{f:Nat->List Bool->(List Bool->Option Int)->(List Bool->Option Int)->Option Int}{K:List Bool->Option Int}(l:List aG)(n:Nat)(p:aG->Bool)(hp:∀s∈l,p s=true->s.term.var<n)
  (h:∀i (hi:i<l.length) s eF,s.length=n->f i s eF K=cond (p l[i]) (if 0<=l[i].term.var then eF (s.set l[i].term.var.toNat true) else eF s) (some 6)) :
  bH f (l.length-0) 0 (qa n []) K=if l.all p=false then some 6 else K (qa n l):=by
 have key:∀ (k i:Nat),i+k=l.length->bH f k i (qa n (l.take i)) K=if (l.drop i).all p=false then some 6 else K (qa n l):=by
  intro k
  induction k with
  |zero=>intro i hk;rw[List.drop_eq_nil_of_le (by omega),List.take_of_length_le (by omega)];rfl
  |succ k ih =>
   intro i hk;have hi:i<l.length:=by omega
   rw[bH,h i hi _ _ (ahU _ _),List.drop_eq_getElem_cons hi,List.all_cons];cases hq:p l[i] with
   |false=>simp
   |true =>
    have h1:=ih (i+1) (by omega);rw[List.take_add_one,List.getElem?_eq_getElem hi,Option.toList_some] at h1;rw[cond_true,Bool.true_and];split
    ·rename_i h0;rw[ao2 n _ _ (hp _ (pz hi) hq) h0];exact h1
    ·rename_i h0;rw[asV n _ _ h0];exact h1
 have:=key (l.length-0) 0 (by omega);simpa using this
theorem m6{t:Types}(hf:jB t){p:ak}(hp:agU p):fZ t p=some (rO t p):=by
 have hs:=hp.slots;have hts:=hp.tests;have hgn:=hp.graph.nodes;have hge:=hp.graph.ag;unfold fZ rO;rw[aD (vR hf),aP];by_cases h1:¬ ((cZ t).2=0)
 ·rw[if_neg h1,if_pos h1]
 have h1:(cZ t).2=0:=Decidable.of_not_not h1;have ht:=xB hf h1;rw[if_pos h1,if_neg (by simp[h1]),aD (kW hp.graph),aP];by_cases h2:¬ (cL p.graph=0)
 ·rw[if_neg h2,if_pos h2]
 have h2:cL p.graph=0:=Decidable.of_not_not h2;have hg:=okG h2;rw[if_pos h2,if_neg (by simp[h2])];rw[aD (iI (p:=λx=>jG x t) (λn=>decide (((t.nodes.length:Nat):Int)<=n)) (by omega) λx _=>rfl),aD (nD (p:=λx=>jH x t) (λe=>decide (((t.ag.length:Nat):Int)<=e.type)) (by omega) λx _=>rfl)];rw[ahS,ahT];by_cases h3:dI t p.graph=false
 ·rw[if_pos h3];unfold dI at h3
  revert h3
  cases p.graph.nodes.all _<;>cases p.graph.ag.all _<;>simp
 rw[if_neg h3];have h3:dI t p.graph=true:=by simpa using h3
 have h3':=h3;unfold dI at h3';rw[Bool.and_eq_true] at h3';rw[h3'.1,h3'.2,Bool.not_true,cond_false,cond_false,aD (aai _ _ _)];by_cases h4:p.vars<0\/12<p.vars
 ·rw[if_pos h4];have:(decide (0<=p.vars)&&decide (p.vars<=12))=false:=by
   rw[Bool.and_eq_false_iff];rcases h4 with h4|h4
   ·exact .inl (jz (by omega))
   ·exact .inr (jz (by omega))
  rw[this];rfl
 rw[if_neg h4];obtain⟨n,hn⟩:∃n:Nat,p.vars=n:=⟨p.vars.toNat,by omega⟩;rw[c7 (by omega:0<=p.vars),c7 (by omega:p.vars<=12),Bool.and_self,cond_true,aP,aP];by_cases h5:10<p.slots.length
 ·rw[if_pos (show (10:Int)<((p.slots.length:Nat):Int) by omega),if_pos (show 10<p.slots.length\/10<p.tests.length from .inl h5)]
 rw[if_neg (show ¬ (10:Int)<((p.slots.length:Nat):Int) by omega)];by_cases h6:10<p.tests.length
 ·rw[if_pos (show (10:Int)<((p.tests.length:Nat):Int) by omega),if_pos (show 10<p.slots.length\/10<p.tests.length from .inr h6)]
 rw[if_neg (show ¬ (10:Int)<((p.tests.length:Nat):Int) by omega),if_neg (show ¬ (10<p.slots.length\/10<p.tests.length) by omega),dA (by omega),dA (bk (by omega))];have e0:List.replicate p.vars.toNat false=qa n []:=by
  rw[hn,Int.toNat_natCast];refine List.ext_getElem (by simp[qa]) λi h1 h2=>?_
  simp[qa,acA]
 rw[e0,ao3 p.slots n (yM t p.graph p.vars) (λs _ h=>by have:=(asX h).2;omega) (λi hi s eF hl=>?_)]
 ·by_cases h7:p.slots.all (yM t p.graph p.vars)=false
  ·rw[if_pos h7,if_pos h7]
  rw[if_neg h7,if_neg h7,aD (ay1 _ _ (by omega)),aP];by_cases h8:¬ (uw p.vars p.tests=0)
  ·rw[if_neg h8,if_pos h8]
  have h8:uw p.vars p.tests=0:=Decidable.of_not_not h8;rw[if_pos h8,if_neg (by simp[h8]),aD (aey _ (by rw[ahU];omega)),asW];have e1:((List.range n).all λv:Nat=>acA p.slots (v:Int))=adH p 0:=by unfold adH;rw[hn,Int.toNat_natCast,Nat.sub_zero,List.range_eq_range']
  rw[e1];cases adH p 0<;>rfl
 ·rw[eS hi];obtain⟨x,hx⟩:=aAG ht hg h3 p.slots[i];rw[aD hx,amg];simp only;cases ha:ad7 t p.graph p.slots[i].node p.slots[i].attr with
  |false=>rfl
  |true =>
   rw[cond_true,aD (aai _ _ _),gm (by omega),aD (aai _ _ _),Bool.true_and];unfold pg;have e2:decide (p.slots[i].term.var<=p.vars-1)=decide (p.slots[i].term.var<p.vars):=by congr 1;exact propext (by omega)
   rw[e2,aP];cases hv1:decide (-1<=p.slots[i].term.var) with
   |false=>rfl
   |true =>
    cases hv2:decide (p.slots[i].term.var<p.vars) with
    |false=>rfl
    |true =>
     have hv2:=bY hv2;cases decide (-1000000<=p.slots[i].term.add)<;>cases decide (p.slots[i].term.add<=1000000)<;>try rfl
     simp only[Bool.and_self,cond_true];split
     ·rename_i h0;rw[rj h0 (by rw[hl];omega)]
     ·rfl
theorem iW{t:Types}(hf:jB t){p:ak}(hp:agU p):ef t p=some (rO t p):=by
 have hs:=hp.slots;have hts:=hp.tests;unfold ef rO;rw[aD (nI hf),aP];by_cases h1:¬ ((cZ t).2=0)
 ·rw[if_neg h1,if_pos h1]
 have h1:(cZ t).2=0:=Decidable.of_not_not h1;have ht:=xB hf h1;rw[if_pos h1,if_neg (by simp[h1]),aD (iy hp.graph),aP];by_cases h2:¬ (cL p.graph=0)
 ·rw[if_neg h2,if_pos h2]
 have h2:cL p.graph=0:=Decidable.of_not_not h2;have hg:=okG h2;rw[if_pos h2,if_neg (by simp[h2]),aD (ame t hg)];cases h3:dI t p.graph with
 |false=>rfl
 |true =>
 rw[cond_true,if_neg (by simp)];simp only[aP];by_cases h4:p.vars<0
 ·rw[if_pos h4,if_pos (show p.vars<0\/12<p.vars from .inl h4)]
 rw[if_neg h4];by_cases h4':12<p.vars
 ·rw[if_pos h4',if_pos (show p.vars<0\/12<p.vars from .inr h4')]
 rw[if_neg h4',if_neg (show ¬ (p.vars<0\/12<p.vars) by omega)];obtain⟨n,hn⟩:∃n:Nat,p.vars=n:=⟨p.vars.toNat,by omega⟩;by_cases h5:10<p.slots.length
 ·rw[if_pos (show (10:Int)<((p.slots.length:Nat):Int) by omega),if_pos (show 10<p.slots.length\/10<p.tests.length from .inl h5)]
 rw[if_neg (show ¬ (10:Int)<((p.slots.length:Nat):Int) by omega)];by_cases h6:10<p.tests.length
 ·rw[if_pos (show (10:Int)<((p.tests.length:Nat):Int) by omega),if_pos (show 10<p.slots.length\/10<p.tests.length from .inr h6)]
 rw[if_neg (show ¬ (10:Int)<((p.tests.length:Nat):Int) by omega),if_neg (show ¬ (10<p.slots.length\/10<p.tests.length) by omega),dA (bk (by omega))];rw[fM p.slots (yM t p.graph p.vars) (λ_=>some 6) (λi hi eF=>?_),iw]
 ·cases h7:p.slots.all (yM t p.graph p.vars) with
  |false=>rfl
  |true =>
  rw[if_pos rfl,if_neg (by simp),aD (awT _ _ (by omega))];by_cases h8:¬ (uw p.vars p.tests=0)
  ·rw[if_neg h8,if_pos h8]
  have h8:uw p.vars p.tests=0:=Decidable.of_not_not h8;rw[if_pos h8,if_neg (by simp[h8]),dA (bk (by omega))];rw[nC (λv:Nat=>acA p.slots (v:Int)) (λ_=>some 9) (λj hj eF=>by rw[aD (awU _ (by simp only;omega) _)])];rw[iw];unfold adH;rw[Nat.sub_zero,<-List.range_eq_range'];cases (List.range p.vars.toNat).all λv:Nat=>acA p.slots (v:Int)<;>rfl
 ·rw[eS hi];obtain⟨x,hx⟩:=ay3 ht hg h3 p.slots[i].node p.slots[i].attr;rw[aD hx,amg];simp only;cases ha:ad7 t p.graph p.slots[i].node p.slots[i].attr with
  |false=>rfl
  |true =>
   rw[cond_true,Bool.true_and];unfold pg iF;by_cases hv1:p.slots[i].term.var < -1
   ·rw[if_pos hv1,jz (by omega:¬ -1<=p.slots[i].term.var)];rfl
   rw[if_neg hv1,c7 (by omega : -1<=p.slots[i].term.var)];by_cases hv2:p.vars<=p.slots[i].term.var
   ·rw[if_pos hv2,jz (by omega:¬ p.slots[i].term.var<p.vars)];rfl
   rw[if_neg hv2,c7 (by omega:p.slots[i].term.var<p.vars)];cases decide (-1000000<=p.slots[i].term.add)<;>cases decide (p.slots[i].term.add<=1000000)<;>rfl
def uA(s y:aG):Bool:=decide (y.node=s.node)&&decide (y.attr=s.attr)
def ajA(t:Types)(r:ak)(i:Nat)(s:aG):Int:=if yM t r.graph r.vars s=false then 6 else if (r.slots.take i).any (uA s)=true then 5 else 0
def yg(t:Types)(r:ak)(i:Nat):Int:=match r.slots[i]? with
 |none=>0
 |some s=>ajA t r i s
def og(t:Types)(r:aF):Int :=
 if cL r.right.graph≠0 then cL r.right.graph else if dI t r.right.graph=false then 13 else if r.right.vars≠r.left.vars then 1
 else if 0<r.right.tests.length then 1 else if 10<r.right.slots.length then 3 else agT (yg t r.right) (List.range r.right.slots.length)
theorem ahV{t:Types}{r:ak}{i:Nat}(hi:i<r.slots.length):yg t r i=ajA t r i r.slots[i]:=by unfold yg;rw[List.getElem?_eq_getElem hi]
theorem apX{α:Type}{l:List α}{i:Nat}(h:i<l.length):jd l (i:Int)=some l[i]:=by unfold jd;rw[if_pos (by omega)];simp[h]
theorem af7{α:Type}(t:Types)(g:au)(hg:rE g)(hb:dI t g=true)(vars:Int)(s:aG)(F G:α) :
  (if s.node<0 then F else if (g.nodes.length:Int)<=s.node then F else if s.attr<0 then F else if ((uz t g s.node).length:Int)<=s.attr then F else if s.term.var < -1 then F else if vars<=s.term.var then F else if s.term.add < -1000000 then F else if 1000000<s.term.add then F else G)=if yM t g vars s=false then F else G:=by
 unfold yM pg;by_cases h1:s.node<0
 ·rw[if_pos h1,jz (by omega:¬ 0<=s.node)];simp
 rw[if_neg h1,c7 (by omega:0<=s.node)];by_cases h2:(g.nodes.length:Int)<=s.node
 ·rw[if_pos h2,jz (by omega:¬ s.node<(g.nodes.length:Int))];simp
 rw[if_neg h2,c7 (by omega:s.node<(g.nodes.length:Int))];by_cases h3:s.attr<0
 ·rw[if_pos h3,jz (by omega:¬ 0<=s.attr)];simp
 rw[if_neg h3,c7 (by omega:0<=s.attr)];by_cases h4:((uz t g s.node).length:Int)<=s.attr
 ·rw[if_pos h4,jz (by omega:¬ s.attr<((uz t g s.node).length:Int))];simp
 rw[if_neg h4,c7 (by omega:s.attr<((uz t g s.node).length:Int))];by_cases h5:s.term.var < -1
 ·rw[if_pos h5,jz (by omega:¬ -1<=s.term.var)];simp
 rw[if_neg h5,c7 (by omega : -1<=s.term.var)];by_cases h6:vars<=s.term.var
 ·rw[if_pos h6,jz (by omega:¬ s.term.var<vars)];simp
 rw[if_neg h6,c7 (by omega:s.term.var<vars)];by_cases h7:s.term.add < -1000000
 ·rw[if_pos h7,jz (by omega:¬ -1000000<=s.term.add)];simp
 rw[if_neg h7,c7 (by omega : -1000000<=s.term.add)];by_cases h8:1000000<s.term.add
 ·rw[if_pos h8,jz (by omega:¬ s.term.add<=1000000)];simp
 rw[if_neg h8,c7 (by omega:s.term.add<=1000000)];simp
theorem amh{t:Types}(ht:yQ t){r:aF}(hg:rE r.right.graph)(hb:dI t r.right.graph=true)(hs:r.right.slots.length<=15){i:Nat}(hi:i<r.right.slots.length):rK t r (i:Int)=some (yg t r.right i):=by
 rw[ahV hi];unfold rK;rw[aD (apX hi)];generalize r.right.slots[i]=s;unfold ajA;simp only[aP];rw[<-af7 t r.right.graph hg hb r.right.vars s];by_cases h1:s.node<0
 ·rw[if_pos h1,if_pos h1]
 rw[if_neg h1,if_neg h1];by_cases h2:(r.right.graph.nodes.length:Int)<=s.node
 ·rw[if_pos h2,if_pos h2]
 rw[if_neg h2,if_neg h2];have hi2:s.node.toNat<r.right.graph.nodes.length:=by omega
 rw[rj (by omega) hi2,aD (apW ht (wW hb hg hi2))];rw[dA (by omega),aD (nH (p:=λx=>mJ x s) (uA s) (by simp;omega) λx _=>by
  unfold mJ uA;cases decide (x.node=s.node)<;>rfl)]
 simp only[uz,bI hi2,Int.toNat_natCast];split<;>try rfl
 split<;>try rfl
 split<;>try rfl
 split<;>try rfl
 split<;>try rfl
 split<;>try rfl
 cases (r.right.slots.take i).any (uA s)<;>rfl
theorem ajB{t:Types}(ht:yQ t){r:ak}(hg:rE r.graph)(hb:dI t r.graph=true)(hs:r.slots.length<=15){i:Nat}(hi:i<r.slots.length):ij t r (i:Int)=some (yg t r i):=by
 rw[ahV hi];unfold ij;rw[aD (apX hi)];generalize r.slots[i]=s;unfold ajA;simp only[aP];rw[<-af7 t r.graph hg hb r.vars s];by_cases h1:s.node<0
 ·rw[if_pos h1,if_pos h1]
 rw[if_neg h1,if_neg h1];by_cases h2:(r.graph.nodes.length:Int)<=s.node
 ·rw[if_pos h2,if_pos h2]
 rw[if_neg h2,if_neg h2];have hi2:s.node.toNat<r.graph.nodes.length:=by omega
 rw[rj (by omega) hi2,aD (amf ht (wW hb hg hi2)),Int.toNat_natCast,dA (bk (by omega))];have hl:(r.slots.take i).length=i:=by simp;omega
 have key:=fM (f:=λaCq (aGy:Unit) ami aCr=>thn (r.slots[aCq]?) λazK=>if azK.node=s.node then (if azK.attr=s.attr then some 5 else ami ()) else ami ()) (K:=λ_=>some (0:Int)) (r.slots.take i) (λy=>!uA s y) (λ_=>some 5) (λj hj eF=>by
  have hj2:j<r.slots.length:=by omega
  rw[eS hj2,List.getElem_take];unfold uA;by_cases c1:r.slots[j].node=s.node
  ·by_cases c2:r.slots[j].attr=s.attr<;>simp[c1,c2]
  ·simp[c1])
 rw[hl] at key;rw[key,iw];simp only[uz,bI hi2];split<;>try rfl
 split<;>try rfl
 split<;>try rfl
 split<;>try rfl
 split<;>try rfl
 split<;>try rfl
 rw[<-Bool.not_not (List.any _ _),<-List.not_any_eq_all_not];simp only[Bool.not_not];cases (r.slots.take i).any (uA s)<;>simp
structure acB(r:aF):Prop where
 name:r.name.size<=60
 left:agU r.left
 right:agU r.right
 keep:r.keep.nodes.length+r.keep.ag.length<=140
 into:r.into.nodes.length+r.into.ag.length<=140
theorem ajC{t:Types}(ht:yQ t){r:aF}(hr:acB r):pS t r=some (og t r):=by
 have hs:=hr.right.slots;have hts:=hr.right.tests;unfold pS og;rw[aD (kW hr.right.graph),aP];by_cases h1:¬ (cL r.right.graph=0)
 ·rw[if_neg h1,if_pos h1]
 have h1:cL r.right.graph=0:=Decidable.of_not_not h1;have hg:=okG h1;rw[if_pos h1,if_neg (by simp[h1]),aD (ay2 t hr.right.graph)];cases h2:dI t r.right.graph with
 |false=>rfl
 |true =>
 rw[cond_true,if_neg (by simp)];simp only[aP];by_cases h3:¬ (r.right.vars=r.left.vars)
 ·rw[if_neg h3,if_pos h3]
 have h3:r.right.vars=r.left.vars:=Decidable.of_not_not h3;rw[if_pos h3,if_neg (show ¬ (r.right.vars≠r.left.vars) from λh=>h h3)];by_cases h4:0<r.right.tests.length
 ·rw[if_pos (show (0:Int)<((r.right.tests.length:Nat):Int) by omega),if_pos h4]
 rw[if_neg (show ¬ (0:Int)<((r.right.tests.length:Nat):Int) by omega),if_neg h4];by_cases h5:10<r.right.slots.length
 ·rw[if_pos (show (10:Int)<((r.right.slots.length:Nat):Int) by omega),if_pos h5]
 rw[if_neg (show ¬ (10:Int)<((r.right.slots.length:Nat):Int) by omega),if_neg h5,dA (bk (by omega))];rw[nC (λj=>decide (yg t r.right j=0)) (λj=>some (yg t r.right j)) (λj hj eF=>by rw[aD (amh (r:=r) ht hg h2 hs hj),aP])];exact qR rfl
theorem vS{t:Types}(ht:yQ t){r:aF}(hr:acB r):gO t r=some (og t r):=by
 have hs:=hr.right.slots;have hts:=hr.right.tests;unfold gO og;rw[aD (iy hr.right.graph),aP];by_cases h1:¬ (cL r.right.graph=0)
 ·rw[if_neg h1,if_pos h1]
 have h1:cL r.right.graph=0:=Decidable.of_not_not h1;have hg:=okG h1;rw[if_pos h1,if_neg (by simp[h1]),aD (ame t hg)];cases h2:dI t r.right.graph with
 |false=>rfl
 |true =>
 rw[cond_true,if_neg (by simp)];simp only[aP];by_cases h3:¬ (r.right.vars=r.left.vars)
 ·rw[if_neg h3,if_pos h3]
 have h3:r.right.vars=r.left.vars:=Decidable.of_not_not h3;rw[if_pos h3,if_neg (show ¬ (r.right.vars≠r.left.vars) from λh=>h h3)];by_cases h4:0<r.right.tests.length
 ·rw[if_pos (show (0:Int)<((r.right.tests.length:Nat):Int) by omega),if_pos h4]
 rw[if_neg (show ¬ (0:Int)<((r.right.tests.length:Nat):Int) by omega),if_neg h4];by_cases h5:10<r.right.slots.length
 ·rw[if_pos (show (10:Int)<((r.right.slots.length:Nat):Int) by omega),if_pos h5]
 rw[if_neg (show ¬ (10:Int)<((r.right.slots.length:Nat):Int) by omega),if_neg h5,dA (bk (by omega))];rw[nC (λj=>decide (yg t r.right j=0)) (λj=>some (yg t r.right j)) (λj hj eF=>by rw[aD (ajB ht hg h2 hs hj),aP])];exact qR rfl
theorem wX{t:Types}{r:aF}(h:og t r=0):rE r.right.graph/\dI t r.right.graph=true:=by
 unfold og at h;split at h
 ·rename_i h1;exact absurd h h1
 split at h
 ·cases h
 rename_i h1 h2;exact⟨okG (Decidable.of_not_not h1),by simpa using h2⟩
structure agV(l:List Int)(n:Int):Prop where
 range:∀x∈l,0<=x/\x<n
 asc:l.Pairwise (· < ·)
def ahW(l:List Int)(n:Int)(i:Nat):Int:=match l[i]? with
 |none=>0
 |some x=>if x<0 then 6 else if n<=x then 6 else if 0<i then (if x<=l.getD (i-1) 0 then 12 else 0) else 0
def ao4(l:List Int)(n:Int):Int:=agT (ahW l n) (List.range l.length)
theorem ao5(l:List Int)(n:Int)(hl:l.length<=1000000):kA l n=some (ao4 l n):=by
 unfold kA ao4;rw[dA (bk (by omega))];rw[nC (λj=>decide (ahW l n j=0)) (λj=>some (ahW l n j)) (λj hj eF=>?_)]
 ·exact qR rfl
 ·rw[eS hj,aP];unfold ahW;simp only[aP,List.getElem?_eq_getElem hj];by_cases h1:l[j]<0
  ·rw[if_pos h1,if_pos h1];rfl
  rw[if_neg h1,if_neg h1];by_cases h2:n<=l[j]
  ·rw[if_pos h2,if_pos h2];rfl
  rw[if_neg h2,if_neg h2];by_cases h3:0<j
  ·rw[if_pos (show (0:Int)<((j:Nat):Int) by omega),if_pos h3];have hw:i64.wrap (((j:Nat):Int)-1)=((j-1:Nat):Int):=by rw[gm (by omega)];omega
   have hj1:j-1<l.length:=by omega
   rw[hw,rj (by omega) (by simpa using hj1)];simp only[Int.toNat_natCast];have:l.getD (j-1) 0=l[j-1]:=by simp[hj1]
   rw[this];by_cases h4:l[j]<=l[j-1]
   ·rw[if_pos h4,if_pos h4];rfl
   ·rw[if_neg h4,if_neg h4];rfl
  ·rw[if_neg (show ¬ (0:Int)<((j:Nat):Int) by omega),if_neg h3];rfl
theorem aeD(l:List Int)(n:Int)(hl:l.length<=1000000):eY l n=some (ao4 l n):=ao5 l n hl
theorem aCs{l:List Int}{n:Int}(h:ao4 l n=0):agV l n:=by
 have h1:=ahR.1 h;have h2:∀i (hi:i<l.length),(0<=l[i]/\l[i]<n)/\(0<i->l.getD (i-1) 0<l[i]):=λi hi=>by
  have:=h1 i (List.mem_range.2 hi);unfold ahW at this;simp only[List.getElem?_eq_getElem hi] at this;split at this
  ·cases this
  split at this
  ·cases this
  refine⟨by omega,λh0=>?_⟩;rw[if_pos h0] at this;split at this
  ·cases this
  ·omega
 refine⟨λx hx=>?_,?_⟩
 ·obtain⟨i,hi,rfl⟩:=List.mem_iff_getElem.1 hx;exact (h2 i hi).1
 ·rw[List.pairwise_iff_getElem];intro i j hi hj hij
  induction j with
  |zero=>omega
  |succ j ih =>
   have h3:=(h2 (j+1) hj).2 (by omega);have hj':j<l.length:=by omega
   have e:l.getD (j+1-1) 0=l[j]:=by simp[hj']
   rw[e] at h3;rcases Nat.lt_or_ge i j with h4|h4
   ·have:=ih hj' h4;omega
   ·have:i=j:=by omega
    subst this;exact h3
def kZ(l:List Int)(x:Int):Nat:=l.countP λy=>decide (y<x)
theorem ay4(l:List Int)(x:Int):kZ l x<=l.length:=List.countP_le_length
theorem yh{l:List Int}(h:l.Pairwise (· < ·))(x:Int):∀i (hi:i<l.length),(i<kZ l x↔l[i]<x):=by
 unfold kZ
 induction l with
 |nil=>intro i hi;simp at hi
 |cons a l ih =>
  rw[List.pairwise_cons] at h;intro i hi;rw[List.countP_cons];cases i with
  |zero =>
   simp only[List.getElem_cons_zero];by_cases ha:a<x
   ·simp[ha]
   ·have:l.countP (λy=>decide (y<x))=0:=by rw[List.countP_eq_zero];intro y hy;have:=h.1 y hy;simp;omega
    simp[ha,this]
  |succ i =>
   simp only[List.getElem_cons_succ];simp only[List.length_cons] at hi;rw[<-ih h.2 i (by omega)];by_cases ha:a<x
   ·simp[ha]
   ·have h1:l.countP (λy=>decide (y<x))=0:=by rw[List.countP_eq_zero];intro y hy;have:=h.1 y hy;simp;omega
    simp[ha,h1]
theorem wY{l:List Int}(h:l.Pairwise (· < ·)){x:Int}(hx:x∈l):∃hi:kZ l x<l.length,l[kZ l x]=x:=by
 obtain⟨i,hi,rfl⟩:=List.mem_iff_getElem.1 hx;have e:kZ l l[i]=i:=by
  rcases Nat.lt_trichotomy (kZ l l[i]) i with h1|h1|h1
  ·have h2:=yh h l[i] (kZ l l[i]) (by omega);have h3:=(List.pairwise_iff_getElem.1 h) _ i (by omega) hi h1;have:=h2.2 h3;omega
  ·exact h1
  ·have:=(yh h l[i] i hi).1 h1;omega
 exact⟨by rw[e];exact hi,by simp only[e]⟩
theorem awV(a:Int):kB a=some false:=by simp[kB]
theorem asY(a:Int):iR a=some false:=by simp[iR]
theorem ay5(a b:Int):nw a b=some (decide (a<b)):=by unfold nw;rw[aD (awV a)];rfl
theorem ay6{m:Int}(h:0<=m/\m<=4000000):i64.wrap ((IntKind.u64.wrap (i64.wrap m)).fdiv (2 ^ 1))=m / 2:=by
 rw[gm (n:=m) (by omega),IntWalk.u64_in m (by omega)];have e:m.fdiv (2 ^ 1)=m / 2:=by rw[Int.fdiv_eq_ediv_of_nonneg _ (by decide)];rfl
 rw[e,gm (by omega)]
theorem adI{l:List Int}(h:l.Pairwise (· < ·))(hl:l.length<=1000)(x:Int):cS l x=some ((kZ l x:Int),decide (x∈l)):=by
 refine Ok.eq ?_;have hple:=ay4 l x;unfold cS;refine aji (λs:Int×Int=>0<=s.1/\s.1<=kZ l x/\(kZ l x:Int)<=s.2/\s.2<=l.length) (λs:Int×Int=>(s.2-s.1).toNat) ⟨by simp,by simp,by simp;omega,by simp⟩ (by unfold fuel;simp;omega) ?_;rintro⟨i,j⟩ eF ⟨h1,h2,h3,h4⟩ hn;simp only at h1 h2 h3 h4 hn ⊢;refine bD (λhc=>?_) (λhc=>?_)
 ·have yP:=bY hc;rw[ay6 (by omega)];have b1:i<=(i+j) / 2:=by omega
  have b2:(i+j) / 2<j:=by omega
  have hi:((i+j) / 2).toNat<l.length:=by omega
  have hs:=yh h x ((i+j) / 2).toNat hi;refine iQ (by omega) hi ?_;refine ok_eq (ay5 _ _) ?_;refine bD (λhd=>?_) (λhd=>?_)
  ·have:=hs.2 (bY hd);rw[gm (by omega)];exact hn _ ⟨by simp only;omega,by simp only;omega,h3,h4⟩ (by simp only;omega)
  ·have hd':=dm hd;have:¬ ((i+j) / 2).toNat<kZ l x:=λh=>hd' (hs.1 h)
   exact hn _ ⟨h1,h2,by simp only;omega,by simp only;omega⟩ (by simp only;omega)
 ·have yP:=dm hc;have hi:i=kZ l x:=by omega
  subst hi;refine bD (λhd=>?_) (λhd=>?_)
  ·have hd':=bY hd;have hlt:kZ l x<l.length:=by omega
   refine iQ (by omega) (by simpa using hlt) ?_;simp only[Int.toNat_natCast];refine bD (λhe=>?_) (λhe=>?_)
   ·have he':=bY he;refine .mk ?_;rw[c7 (he' ▸ pz hlt)]
   ·have he':=dm he;refine ok_eq (asY _) ?_;refine abI rfl (.mk ?_);rw[jz λhm=>?_];obtain⟨_,hq⟩:=wY h hm;exact he' hq
  ·have hd':=dm hd;refine .mk ?_;rw[jz λhm=>?_];obtain⟨hq,_⟩:=wY h hm;omega
theorem awW{l:List Int}(h:l.Pairwise (· < ·))(hl:l.length<=1000)(x:Int):jk l x=some (decide (x∈l)):=by unfold jk;rw[aD (adI h hl x)]
theorem acC(l:List Int)(x:Int):(l.any λy=>decide (y=x))=decide (x∈l):=by
 by_cases h:x∈l
 ·rw[c7 h,List.any_eq_true];exact⟨x,h,by simp⟩
 ·rw[jz h];rw[Bool.eq_false_iff];intro h2;obtain⟨y,hy,he⟩:=List.any_eq_true.1 h2;exact h (bY he ▸ hy)
theorem j8{l:List Int}(hl:l.length<=1000000)(x:Int):dX l x=some (decide (x∈l)):=by
 unfold dX;rw[dA (bk (by omega))];rw[fM l (λy=>!decide (y=x)) (λ_=>some true) (λi hi eF=>by
  rw[eS hi];cases decide (l[i]=x)<;>rfl),iw]
 rw[<-acC,<-Bool.not_not (List.any _ _),<-List.not_any_eq_all_not];simp only[Bool.not_not];cases l.any λy=>decide (y=x)<;>simp
theorem yZ{l:List Int}(hl:l.length<=1000000)(x:Int):iN l x=some (decide (x∈l)):=by
 unfold iN;rw[dA (bk (by omega))];rw[fM l (λy=>!decide (y=x)) (λ_=>some true) (λi hi eF=>by
  rw[eS hi];cases decide (l[i]=x)<;>rfl),iw]
 rw[<-acC,<-Bool.not_not (List.any _ _),<-List.not_any_eq_all_not];simp only[Bool.not_not];cases l.any λy=>decide (y=x)<;>simp
theorem amj{l:List Int}(h:l.Pairwise (· < ·))(hl:l.length<=1000){x:Int}(hx:x∈l):fh l x=some (kZ l x:Int):=by
 unfold fh;rw[dA (bk (by omega))];rw[p9 l (λy=>decide (y=x)) (λi hi eF=>by rw[eS hi]) rfl];obtain⟨hi,he⟩:=wY h hx;unfold af6;have:l.findIdx? (λy=>decide (y=x))=some (kZ l x):=by rw[List.findIdx?_eq_some_iff_getElem];refine⟨hi,by simp[he],λj hj=>?_⟩;have:=(yh h x j (by omega)).1 hj;simp;omega
 rw[this]
structure oE(g:au)(p:aO):Prop where
 nodes:agV p.nodes g.nodes.length
 ag:agV p.ag g.ag.length
 ends:∀e∈p.ag,(g.ag.getD e.toNat default).src∈p.nodes/\(g.ag.getD e.toNat default).dst∈p.nodes
theorem yj{l:List Int}{n:Nat}(h:agV l n){i:Nat}(hi:i<l.length):0<=l[i]/\l[i].toNat<n:=by have:=h.range _ (pz hi);omega
theorem asZ{g:au}{p:aO}(hp:p.nodes.length<=1000/\p.ag.length<=1000):∃e,mD g p=some e/\cx g p=some e/\(e=0->oE g p):=by
 unfold mD cx;rw[aD (ao5 _ _ (by omega)),aD (aeD _ _ (by omega))];simp only[aP];by_cases h1:¬ (ao4 p.nodes (g.nodes.length:Int)=0)
 ·rw[if_neg h1,if_neg h1];exact⟨_,rfl,rfl,λh=>absurd h h1⟩
 have h1:=Decidable.of_not_not h1;rw[if_pos h1,if_pos h1,aD (ao5 _ _ (by omega)),aD (aeD _ _ (by omega))];by_cases h2:¬ (ao4 p.ag (g.ag.length:Int)=0)
 ·rw[if_neg h2,if_neg h2];exact⟨_,rfl,rfl,λh=>absurd h h2⟩
 have h2:=Decidable.of_not_not h2;have a1:=aCs h1;have a2:=aCs h2;have hfl:p.ag.length<=fuel:=bk (by omega);rw[if_pos h2,if_pos h2,dA hfl,dA hfl];have b1:=fM (f:=λi302 (aFM:Unit) ajD ay7=>thn (p.ag[i302]?) λaAH=>thn (jd g.ag aAH) λawX=>thn (jk p.nodes awX.src) λaAI=>cond aAI (thn (jk p.nodes awX.dst) λaAJ=>cond aAJ (ajD ()) <| some 14) <| some 14) (K:=λ_=>some (0:Int)) p.ag
  (λe=>decide ((g.ag.getD e.toNat default).src∈p.nodes)&&decide ((g.ag.getD e.toNat default).dst∈p.nodes)) (λ_=>some 14) (λi hi eF=>by
   obtain⟨c1,c2⟩:=yj a2 hi;rw[eS hi,rj c1 c2,aD (awW a1.asc hp.1 _),bI c2];cases decide ((g.ag[p.ag[i].toNat]).src∈p.nodes) with
   |false=>rfl
   |true=>rw[cond_true,aD (awW a1.asc hp.1 _),Bool.true_and])
 have b2:=fM (f:=λi302 (aFM:Unit) ajD ay7=>thn (p.ag[i302]?) λaAH=>thn (jd g.ag aAH) λawX=>thn (dX p.nodes awX.src) λaAI=>cond aAI (thn (dX p.nodes awX.dst) λaAJ=>cond aAJ (ajD ()) <| some 14) <| some 14) (K:=λ_=>some (0:Int)) p.ag
  (λe=>decide ((g.ag.getD e.toNat default).src∈p.nodes)&&decide ((g.ag.getD e.toNat default).dst∈p.nodes)) (λ_=>some 14) (λi hi eF=>by
   obtain⟨c1,c2⟩:=yj a2 hi;rw[eS hi,rj c1 c2,aD (j8 (by omega) _),bI c2];cases decide ((g.ag[p.ag[i].toNat]).src∈p.nodes) with
   |false=>rfl
   |true=>rw[cond_true,aD (j8 (by omega) _),Bool.true_and])
 rw[b1,b2,iw];split
 ·rename_i h3;refine⟨0,rfl,rfl,λ_=>⟨a1,a2,λe he=>?_⟩⟩;have:=List.all_eq_true.1 h3 e he;simpa using this
 ·exact⟨14,rfl,rfl,λh=>by cases h⟩
theorem yl{g:au}(hg:rD g){p:aO}(hp:p.nodes.length<=1000/\p.ag.length<=1000):∃e,iS g p=some e/\b8 g p=some e/\(e=0->oE g p/\rE g):=by
 unfold iS b8;rw[aD (kW hg),aD (iy hg)];simp only[aP];by_cases h1:¬ (cL g=0)
 ·rw[if_neg h1,if_neg h1];exact⟨_,rfl,rfl,λh=>absurd h h1⟩
 have h1:=Decidable.of_not_not h1;obtain⟨e,h2,h3,h4⟩:=asZ (g:=g) hp;rw[if_pos h1,if_pos h1,aD h2,aD h3];exact⟨e,rfl,rfl,λh=>⟨h4 h,okG h1⟩⟩
def dW(g:au)(p:aO):au:=⟨p.nodes.map (λn=>g.nodes.getD n.toNat default),p.ag.map (λn=>⟨(g.ag.getD n.toNat default).type,kZ p.nodes (g.ag.getD n.toNat default).src,kZ p.nodes (g.ag.getD n.toNat default).dst⟩)⟩
theorem awY{g:au}{p:aO}(h:oE g p)(hp:p.nodes.length<=1000/\p.ag.length<=1000)(hv:iS g p=some 0):dQ g p=some (dW g p,⟨p.nodes,p.ag⟩,0):=by
 refine Ok.eq ?_;unfold dQ;refine ok_eq hv ?_;refine sN rfl ?_;refine cr (bk (by omega)) ?_;refine ajj p.nodes (λn=>g.nodes.getD n.toNat default) (λj s eF hj hsl hn=>?_) ?_
 ·obtain⟨h0,hi⟩:=yj h.nodes hj;refine lX hj ?_;refine iQ h0 hi ?_;refine cr (by omega) ?_;rw[bI hi] at hn;exact hn
 refine cr (bk (by omega)) ?_;refine ajj p.ag (λn=>(⟨(g.ag.getD n.toNat default).type,kZ p.nodes (g.ag.getD n.toNat default).src,kZ p.nodes (g.ag.getD n.toNat default).dst⟩:Edge)) (λj s eF hj hsl hn=>?_) ?_
 ·obtain⟨h0,hi⟩:=yj h.ag hj;refine lX hj ?_;refine iQ h0 hi ?_;refine ok_eq (adI h.nodes.asc hp.1 _) ?_;refine ok_eq (adI h.nodes.asc hp.1 _) ?_;refine cr (by omega) ?_;rw[bI hi] at hn;exact hn
 refine ok_eq (r:=p.nodes) (qt (by omega)) ?_;refine ok_eq (r:=p.ag) (qt (by omega)) ?_;exact .mk rfl
theorem ajE{g:au}{p:aO}(h:oE g p)(hp:p.nodes.length<=1000/\p.ag.length<=1000)(hv:b8 g p=some 0):fR g p=some (dW g p,⟨p.nodes,p.ag⟩,0):=by
 refine Ok.eq ?_;unfold fR;refine ok_eq hv ?_;refine sN rfl ?_;refine cr (bk (by omega)) ?_;refine ajj p.nodes (λn=>g.nodes.getD n.toNat default) (λj s eF hj hsl hn=>?_) ?_
 ·obtain⟨h0,hi⟩:=yj h.nodes hj;refine lX hj ?_;refine iQ h0 hi ?_;refine cr (by omega) ?_;rw[bI hi] at hn;exact hn
 refine cr (bk (by omega)) ?_;refine ajj p.ag (λn=>(⟨(g.ag.getD n.toNat default).type,kZ p.nodes (g.ag.getD n.toNat default).src,kZ p.nodes (g.ag.getD n.toNat default).dst⟩:Edge)) (λj s eF hj hsl hn=>?_) ?_
 ·obtain⟨h0,hi⟩:=yj h.ag hj;have he:=h.ends _ (pz hj);rw[bI hi] at he;refine lX hj ?_;refine iQ h0 hi ?_;refine ok_eq (amj h.nodes.asc hp.1 he.1) ?_;refine ok_eq (amj h.nodes.asc hp.1 he.2) ?_;refine cr (by omega) ?_;rw[bI hi] at hn;exact hn
 refine cr (by omega) ?_;refine cr (by omega) ?_;exact .mk rfl
structure aCt(a b:au)(m:ah):Prop where
 adJ:m.nodes.length=a.nodes.length
 ajF:m.ag.length=a.ag.length
 node:∀i (h:i<m.nodes.length),0<=m.nodes[i]/\m.nodes[i].toNat<b.nodes.length
 oK:∀i (h:i<m.ag.length),0<=m.ag[i]/\m.ag[i].toNat<b.ag.length
theorem aaj(a b:au)(m:ah):b7 a b m=aY a b m:=by
 unfold b7 aY;show (thn (eL a) λr=>_)=(thn (eL a) λr=>_);congr 1;funext r;congr 1;show (thn (eL b) λr=>_)=(thn (eL b) λr=>_);congr 1;funext r;congr 1;by_cases h1:((m.nodes.length:Nat):Int)=(a.nodes.length:Int)
 ·by_cases h2:((m.ag.length:Nat):Int)=(a.ag.length:Int)
  ·have yB:m.nodes.length=a.nodes.length:=by omega
   have h2':m.ag.length=a.ag.length:=by omega
   rw[yB,h2']
  ·simp only[aP,if_neg h2]
 ·simp only[aP,if_neg h1]
theorem awZ{a b:au}(ha:rD a)(hb:rD b){m:ah} : ∃e,aY a b m=some e/\(e=0->aCt a b m/\rE a/\rE b):=by
 show Ok _ _;have ha1:=ha.nodes;have ha2:=ha.ag;unfold aY;refine ok_eq (iy ha) ?_;refine bD (λh1=>?_) (λh1=>.mk λh=>absurd h (dm h1));have h1:=bY h1;refine ok_eq (iy hb) ?_;refine bD (λh2=>?_) (λh2=>.mk λh=>absurd h (dm h2));have h2:=bY h2;have ga:=okG h1;have gb:=okG h2;refine bD (λh3=>?_) (λ_=>.mk λh=>by cases h);refine bD (λh4=>?_) (λ_=>.mk λh=>by cases h);have h3:m.nodes.length=a.nodes.length:=by have:=bY h3;omega
 have h4:m.ag.length=a.ag.length:=by have:=bY h4;omega
 refine cr (bk (by omega)) ?_;refine fX (λj _=>∀i (h:i<m.nodes.length),i<j->0<=m.nodes[i]/\m.nodes[i].toNat<b.nodes.length) (Nat.zero_le _) (λi _ h=>by omega) (λj s eF _ hj hI hn=>?_) (λs hI=>?_)
 ·refine lX (by omega) ?_;refine bD (λ_=>.mk λh=>by cases h) (λc1=>?_);refine bD (λ_=>.mk λh=>by cases h) (λc2=>?_);have c1:=dm c1;have c2:=dm c2;refine iQ (by omega) (by omega) ?_;refine lX hj ?_;refine bD (λ_=>hn _ λi hi hij=>?_) (λ_=>.mk λh=>by cases h);rcases Nat.lt_or_ge i j with h5|h5
  ·exact hI i hi h5
  ·have:i=j:=by omega
   subst this;omega
 refine cr (bk (by omega)) ?_;refine fX (λj _=>∀i (h:i<m.ag.length),i<j->0<=m.ag[i]/\m.ag[i].toNat<b.ag.length) (Nat.zero_le _) (λi _ h=>by omega) (λj s eF _ hj hI2 hn=>?_) (λs hI2=>.mk λ_=>⟨⟨h3,h4,λi hi=>hI i hi (by omega),λi hi=>hI2 i hi (by omega)⟩,ga,gb⟩);refine lX (by omega) ?_;refine bD (λ_=>.mk λh=>by cases h) (λc1=>?_);refine bD (λ_=>.mk λh=>by cases h) (λc2=>?_);have c1:=dm c1;have c2:=dm c2;refine lX hj ?_;refine iQ (by omega) (by omega) ?_;have he:=ga.oK j hj;rw[bI hj] at he;refine bD (λ_=>?_) (λ_=>.mk λh=>by cases h);refine iQ he.2.1.1 (by omega) ?_;refine bD (λ_=>?_) (λ_=>.mk λh=>by cases h);refine iQ he.2.2.1 (by omega) ?_;refine bD (λ_=>hn _ λi hi hij=>?_) (λ_=>.mk λh=>by cases h);rcases Nat.lt_or_ge i j with h5|h5
 ·exact hI2 i hi h5
 ·have:i=j:=by omega
  subst this;omega
theorem ajG{zs:List Int}(h:zs.Pairwise (·<=·)):∀m,m<=zs.length->(Lib.compactUpTo zs.toArray m).Pairwise (· < ·)/\∀x,x∈Lib.compactUpTo zs.toArray m↔∃j,∃hj:j<zs.length,j<m/\zs[j]=x:=by
 intro m
 induction m with
 |zero=>intro _;simp[Lib.compactUpTo]
 |succ m ih =>
  intro hm;obtain⟨i1,i2⟩:=ih (by omega);have aiM:∀j (hj:j<zs.length),zs.toArray[j]! = zs[j]:=λj hj=>by simp[hj]
  rw[Lib.compactUpTo_succ];by_cases hk:Lib.keeps zs.toArray m=true
  ·rw[if_pos hk,aiM m (by omega)];have hlt:∀j (hj:j<zs.length),j<m->zs[j]<zs[m]:=λj hj hjm=>by
    have hk':=hk;unfold Lib.keeps at hk';rw[decide_eq_true_eq] at hk';rcases hk' with h0|h0
    ·omega
    ·rw[aiM m (by omega),aiM (m-1) (by omega)] at h0;have h1:zs[m-1]<=zs[m]:=(List.pairwise_iff_getElem.1 h) (m-1) m (by omega) (by omega) (by omega);have h2:zs[j]<=zs[m-1]:=by
      rcases Nat.lt_or_ge j (m-1) with h3|h3
      ·exact (List.pairwise_iff_getElem.1 h) j (m-1) hj (by omega) h3
      ·have:j=m-1:=by omega
       subst this;exact Int.le_refl _
     omega
   refine⟨?_,λx=>?_⟩
   ·rw[List.pairwise_append];refine⟨i1,by simp,λa ha b hb=>?_⟩;obtain⟨j,hj,hjm,rfl⟩:=(i2 a).1 ha;simp at hb;subst hb;exact hlt j hj hjm
   ·rw[List.mem_append,i2,List.mem_singleton];constructor
    ·rintro (⟨j,hj,hjm,rfl⟩|rfl)
     ·exact⟨j,hj,by omega,rfl⟩
     ·exact⟨m,by omega,by omega,rfl⟩
    ·rintro⟨j,hj,hjm,rfl⟩;rcases Nat.lt_or_ge j m with h3|h3
     ·exact .inl ⟨j,hj,h3,rfl⟩
     ·have:j=m:=by omega
      subst this;exact .inr rfl
  ·rw[if_neg hk,List.append_nil];refine⟨i1,λx=>?_⟩;rw[i2];constructor
   ·rintro⟨j,hj,hjm,rfl⟩;exact⟨j,hj,by omega,rfl⟩
   ·rintro⟨j,hj,hjm,rfl⟩;rcases Nat.lt_or_ge j m with h3|h3
    ·exact⟨j,hj,h3,rfl⟩
    ·have:j=m:=by omega
     subst this;unfold Lib.keeps at hk;rw[decide_eq_true_eq] at hk;have h0:¬ j=0:=λe=>hk (.inl e)
     have h1:zs.toArray[j]! = zs.toArray[j-1]!:=Decidable.of_not_not λe=>hk (.inr e)
     rw[aiM j hj,aiM (j-1) (by omega)] at h1;exact⟨j-1,by omega,by omega,h1.symm⟩
theorem amk{zs:List Int}(h:zs.Pairwise (·<=·)):(Lib.compact zs).Pairwise (· < ·)/\∀x,x∈Lib.compact zs↔x∈zs:=by
 obtain⟨h1,h2⟩:=ajG h zs.length (Nat.le_refl _);refine⟨h1,λx=>(h2 x).trans ?_⟩;rw[List.mem_iff_getElem];constructor
 ·rintro⟨j,hj,_,rfl⟩;exact⟨j,hj,rfl⟩
 ·rintro⟨j,hj,rfl⟩;exact⟨j,hj,hj,rfl⟩
theorem aml{zs:List Int}(h:zs.Pairwise (·<=·)):(Lib.compact zs).length=zs.length↔zs.Nodup:=by
 constructor
 ·intro hl;have hall:∀j,j<zs.length->Lib.keeps zs.toArray j=true:=by unfold Lib.compact Lib.compactUpTo at hl;rw[List.length_map] at hl;have hr:(List.range zs.length).length=zs.length:=List.length_range;have h1:=List.length_filter_eq_length_iff.1 (hl.trans hr.symm);exact λj hj=>h1 j (List.mem_range.2 hj)
  have h2:=(amk h).1;rw[Lib.compact_all zs hall] at h2;exact h2.imp λh=>by omega
 ·intro hn;rw[Lib.compact_all zs λj hj=>?_];unfold Lib.keeps;rw[decide_eq_true_eq];by_cases h0:j=0
  ·exact .inl h0
  ·refine .inr λe=>?_
   have e1:zs.toArray[j]! = zs[j]:=by simp[hj]
   have e2:zs.toArray[j-1]! = zs[j-1]'(by omega):=by simp[show j-1<zs.length by omega]
   rw[e1,e2] at e;exact (List.pairwise_iff_getElem.1 hn) (j-1) j (by omega) hj (by omega) e.symm
def ad8(l:List Int):List Int:=l.mergeSort λx y=>decide (x<=y)
theorem ajH(l:List Int):(ad8 l).Pairwise (·<=·):=by have:=List.pairwise_mergeSort (le:=λx y:Int=>decide (x<=y)) (λa b c h1 h2=>by simp at *;omega) (λa b=>by simp;omega) l;exact this.imp λh=>by simpa using h
theorem af8(l:List Int):(ad8 l).Perm l:=List.mergeSort_perm l _
theorem ahX(l:List Int):(ad8 l).length=l.length:=(af8 l).length_eq
theorem aAK{l:List Int}(h:l.length<=1000000):mS l=some (ad8 l):=(qt h).trans (by rw[adt];rfl)
theorem as0{l:List Int}(h:l.length<=1000000):kK l=some (Lib.compact l):=qt h
theorem ajI{l:List Int}(h:l.length<=1000000):bp l=some l:=qt h
theorem amm{l:List Int}(h:l.length<=1000000):js l=some (((Lib.compact (ad8 l)).length:Nat):Int):=by unfold js;rw[aD (ajI h),aD (aAK h),aD (as0 (by rw[ahX];exact h))]
theorem acD{l:List Int} : (((Lib.compact (ad8 l)).length:Nat):Int)=((l.length:Nat):Int)↔l.Nodup:=by rw[Int.natCast_inj,<-ahX l,aml (ajH l)];exact (af8 l).nodup_iff
theorem nJ{l:List Int}(h:l.length<=1000000):cH l=some (decide l.Nodup):=by
 refine Ok.eq ?_;unfold cH;refine cr (bk (by omega)) ?_;refine fX (λj _=>(l.take j).Nodup) (Nat.zero_le _) (by simp) (λi s eF _ hi hI hn=>?_) (λs hI=>.mk ?_)
 ·refine cr (bk (by omega)) ?_;refine fX (λj _=>∀k (hk:k<l.length),k<j->l[k]≠l[i]) (Nat.zero_le _) (λk _ h=>by omega) (λj s2 aCu _ hj hI2 hn2=>?_) (λs2 hI2=>hn _ ?_)
  ·refine lX hi ?_;refine lX (by omega) ?_;refine bD (λhc=>.mk ?_) (λhc=>hn2 _ λk hk hkj=>?_)
   ·have hc:=bY hc;refine (jz λhnd=>?_).symm;exact (List.pairwise_iff_getElem.1 hnd) j i (by omega) hi hj hc.symm
   ·rcases Nat.lt_or_ge k j with h1|h1
    ·exact hI2 k hk h1
    ·have:k=j:=by omega
     subst this;exact λe=>dm hc e.symm
  ·rw[List.take_add_one,List.getElem?_eq_getElem hi,Option.toList_some,List.nodup_append];refine⟨hI,by simp,λa ha b hb=>?_⟩;simp at hb;subst hb;obtain⟨k,hk,rfl⟩:=List.mem_iff_getElem.1 ha;rw[List.getElem_take];have hk2:k<i/\k<l.length:=by rw[List.length_take] at hk;omega
   exact hI2 k hk2.2 hk2.1
 ·rw[List.take_length] at hI;exact (c7 hI).symm
theorem acE{a b:au}(ha:rD a)(hb:rD b){m:ah}(hm:m.nodes.length<=1000/\m.ag.length<=1000)(hv:aY a b m=some 0) :
  c8 a b m=some (decide m.nodes.Nodup&&decide m.ag.Nodup)/\b9 a b m=some (decide m.nodes.Nodup&&decide m.ag.Nodup):=by
 unfold c8 b9;rw[aaj,aD hv,aD hv,c7 rfl,cond_true,cond_true,aD (amm (by omega)),aD (amm (by omega)),aD (nJ (by omega)),aD (nJ (by omega))];have e1:decide ((((Lib.compact (ad8 m.nodes)).length:Nat):Int)=((m.nodes.length:Nat):Int))=decide m.nodes.Nodup:=by congr 1;exact propext acD
 have e2:decide ((((Lib.compact (ad8 m.ag)).length:Nat):Int)=((m.ag.length:Nat):Int))=decide m.ag.Nodup:=by congr 1;exact propext acD
 rw[e1,e2];cases decide m.nodes.Nodup<;>simp
def mG(n:Nat)(l:List Int):List Int:=((List.range n).filter λi:Nat=>!decide ((i:Int)∈l)).map λi:Nat=>(i:Int)
theorem nV{n:Nat}{l:List Int}{x:Int} : x∈mG n l↔(0<=x/\x<n)/\x ∉ l:=by
 unfold mG;simp only[List.mem_map,List.mem_filter,List.mem_range,Bool.not_eq_true',decide_eq_false_iff_not];constructor
 ·rintro⟨i,⟨h1,h2⟩,rfl⟩;exact⟨⟨by omega,by omega⟩,h2⟩
 ·rintro⟨⟨h1,h2⟩,h3⟩;exact⟨x.toNat,⟨by omega,by rwa [Int.toNat_of_nonneg h1]⟩,by omega⟩
theorem mM(n:Nat)(l:List Int):(mG n l).length<=n:=by unfold mG;rw[List.length_map];exact Nat.le_trans (List.length_filter_le _ _) (by simp)
theorem ahY{f:Nat->List Int->(List Int->Option (List Int))->(List Int->Option (List Int))->Option (List Int)}{K:List Int->Option (List Int)}{n:Nat}{l:List Int}(h:∀i,i<n->∀s eF,s.length<=i->f i s eF K=cond (decide ((i:Int)∈l)) (eF s) (eF (s++[(i:Int)]))) :
  bH f (n-0) 0 [] K=K (mG n l):=by
 have e:=wT (K:=K) (s:=([]:List Int)) (f:=f) (List.range n) (λ(s:List Int) (i:Nat)=>if (!decide ((i:Int)∈l))=true then s++[(i:Int)] else s) (λi s=>s.length<=i) (Nat.le_refl _) (λi hi s hs=>⟨λeF=>?_,?_⟩)
 ·rw[List.length_range] at e;rw[e.1];congr 1;unfold mG;have:∀ (q:List Nat) (s:List Int),q.foldl (λ(s:List Int) (i:Nat)=>if (!decide ((i:Int)∈l))=true then s++[(i:Int)] else s) s=s++(q.filter λi:Nat=>!decide ((i:Int)∈l)).map λi:Nat=>(i:Int):=by
   intro q
   induction q with
   |nil=>intro s;simp
   |cons a q ih=>intro s;rw[List.foldl_cons,ih,List.filter_cons];split<;>simp
  rw[this,List.nil_append]
 ·have hi':i<n:=by simpa using hi
  rw[h i hi' s eF hs,List.getElem_range];cases decide ((i:Int)∈l)<;>simp
 ·rw[List.getElem_range];split
  ·simp;omega
  ·omega
theorem nK{l:List Int}(hl:l.length<=1000000)(x:Int):bC l x=some (decide (x∈l)):=by unfold bC fz;rw[dA (bk (by omega))];rw[aD (p9 l (λy=>decide (x=y)) (λi hi eF=>by rw[eS hi]) rfl),ye];rw[<-acC];congr 2;funext y;congr 1;exact propext eq_comm
theorem amn{l:List Int}(hl:l.length<=1000000)(n:Nat)(hn:n<=1000000):mK l (n:Int)=some (mG n l):=by unfold mK;rw[Int.toNat_natCast,dA (bk (by omega))];exact ahY (l:=l) λi hi s eF hs=>by rw[aD (nK hl _),dA (by omega)]
theorem aw0{l:List Int}(hl:l.length<=1000000)(n:Nat)(hn:n<=1000000):fI (n:Int) l=some (mG n l):=by unfold fI;rw[Int.toNat_natCast,dA (bk (by omega))];exact ahY (l:=l) λi hi s eF hs=>by rw[aD (yZ hl _),dA (by omega)]
def kj(r:aF):List Int:=mG r.right.graph.nodes.length r.into.nodes
def lP(r:aF):List Int:=mG r.right.graph.ag.length r.into.ag
theorem aaG{r:aF}(hr:acB r):lH r=some (kj r,lP r)/\cT r=some (kj r,lP r):=by have h1:=hr.into;have h2:=hr.right.graph.nodes;have h3:=hr.right.graph.ag;unfold lH cT;rw[aD (amn (by omega) _ (by omega)),aD (amn (by omega) _ (by omega)),aD (aw0 (by omega) _ (by omega)),aD (aw0 (by omega) _ (by omega))];exact⟨rfl,rfl⟩
def sH(t:Types)(g:au)(nodes ag:List Int):Bool:=nodes.all (λn=>!(t.nodes.getD (g.nodes.getD n.toNat default).toNat default).abs)&&ag.all λn=>n7 t (g.ag.getD n.toNat default).type (g.nodes.getD (g.ag.getD n.toNat default).src.toNat default) (g.nodes.getD (g.ag.getD n.toNat default).dst.toNat default)
theorem adK{t:Types}(ht:jB t){g:au}(hg:rE g)(hb:dI t g=true){nodes ag:List Int}(hn:∀x∈nodes,0<=x/\x<g.nodes.length)(he:∀x∈ag,0<=x/\x<g.ag.length)(hnl:nodes.length<=1000)(hel:ag.length<=1000) :
  lI t g nodes ag=some (sH t g nodes ag)/\gq t g nodes ag=some (sH t g nodes ag):=by
 have a1:∀x∈nodes,jd g.nodes x=some (g.nodes.getD x.toNat default)/\jd t.nodes (g.nodes.getD x.toNat default)=some (t.nodes.getD (g.nodes.getD x.toNat default).toNat default):=λx hx=>by
  have:=hn x hx;have hi:x.toNat<g.nodes.length:=by omega
  have hk:=wW hb hg hi;have hi2:g.nodes[x.toNat].toNat<t.nodes.length:=by omega
  constructor
  ·unfold jd;rw[if_pos this.1,List.getElem?_eq_getElem hi,bI hi]
  ·rw[bI hi];unfold jd;rw[if_pos hk.1,List.getElem?_eq_getElem hi2,bI hi2]
 have a2:∀x∈ag,jd g.ag x=some (g.ag.getD x.toNat default)/\jd g.nodes (g.ag.getD x.toNat default).src=some (g.nodes.getD (g.ag.getD x.toNat default).src.toNat default)/\jd g.nodes (g.ag.getD x.toNat default).dst=some (g.nodes.getD (g.ag.getD x.toNat default).dst.toNat default):=λx hx=>by
  have:=he x hx;have hi:x.toNat<g.ag.length:=by omega
  have hk:=hg.oK _ hi;refine⟨?_,?_,?_⟩
  ·unfold jd;rw[if_pos this.1,List.getElem?_eq_getElem hi,bI hi]
  ·have hi2:(g.ag.getD x.toNat default).src.toNat<g.nodes.length:=by omega
   unfold jd;rw[if_pos hk.2.1.1,List.getElem?_eq_getElem hi2,bI hi2]
  ·have hi2:(g.ag.getD x.toNat default).dst.toNat<g.nodes.length:=by omega
   unfold jd;rw[if_pos hk.2.2.1,List.getElem?_eq_getElem hi2,bI hi2]
 constructor
 ·unfold lI sH;rw[aD (iI (p:=λx=>jQ x ⟨t.nodes,t.ag⟩ ⟨g.nodes,g.ag⟩) (λn=>!(λn=>!(t.nodes.getD (g.nodes.getD n.toNat default).toNat default).abs) n) (by omega) λx hx=>by
   unfold jQ;obtain⟨b1,b2⟩:=a1 x hx;rw[aD b1,aD b2,Bool.not_not]),rN]
  cases nodes.all λn=>!(t.nodes.getD (g.nodes.getD n.toNat default).toNat default).abs with
  |false=>rfl
  |true =>
   rw[Bool.not_true,cond_false,Bool.true_and];rw[aD (iI (p:=λx=>jR x g ⟨t.nodes,t.ag⟩) (λn=>!(λn=>n7 t (g.ag.getD n.toNat default).type (g.nodes.getD (g.ag.getD n.toNat default).src.toNat default) (g.nodes.getD (g.ag.getD n.toNat default).dst.toNat default)) n) (by omega) λx hx=>by
    unfold jR;obtain⟨b1,b2,b3⟩:=a2 x hx;rw[aD b1,aD b2,aD b3,aD (aAD ht _ _ _)]),rN,Bool.not_not]
 ·unfold gq sH;rw[dA (bk (by omega))];rw[fM nodes (λn=>!(t.nodes.getD (g.nodes.getD n.toNat default).toNat default).abs) (λ_=>some false) (λi hi eF=>by
   obtain⟨b1,b2⟩:=a1 _ (pz hi);rw[eS hi,aD b1,aD b2,asT]),iw]
  cases nodes.all λn=>!(t.nodes.getD (g.nodes.getD n.toNat default).toNat default).abs with
  |false=>rfl
  |true =>
   rw[if_pos rfl,Bool.true_and,dA (bk (by omega))];rw[fM ag (λn=>n7 t (g.ag.getD n.toNat default).type (g.nodes.getD (g.ag.getD n.toNat default).src.toNat default) (g.nodes.getD (g.ag.getD n.toNat default).dst.toNat default)) (λ_=>some false) (λi hi eF=>by
    obtain⟨b1,b2,b3⟩:=a2 _ (pz hi);rw[eS hi,aD b1,aD b2,aD b3,aD (ay0 ht _ _ _)]),iw]
   cases ag.all _<;>rfl
mutual
def m7:aj->Nat
 |⟨_,kids,_,_⟩=>lQ kids+1
def lQ:List aj->Nat
 | []=>0
 |a :: r=>m7 a+lQ r
end
mutual
def uB:aj->Prop
 |⟨_,kids,m,p⟩=>agU p/\m.nodes.length+m.ag.length<=140/\acF kids
def acF:List aj->Prop
 | []=>True
 |a :: r=>uB a/\acF r
end
theorem acG(c:aj):m7 c=lQ c.kids+1:=by cases c;rw[m7]
theorem ao6{l:List aj}{k:aj}(h:k∈l):m7 k<=lQ l:=by
 induction l with
 |nil=>cases h
 |cons a r ih =>
  rw[lQ];rcases List.mem_cons.1 h with rfl|h
  ·omega
  ·have:=ih h;omega
theorem aaH(c:aj):0<m7 c:=by rw[acG];omega
theorem ao7(l:List aj):l.length<=lQ l:=by
 induction l with
 |nil=>simp
 |cons a r ih=>rw[lQ,List.length_cons];have:=aaH a;omega
theorem aeE{c:aj}(h:uB c):agU c.pattern/\c.map.nodes.length+c.map.ag.length<=140/\acF c.kids:=by cases c;rw[uB] at h;exact h
theorem ahZ{l:List aj}(h:acF l){k:aj}(hk:k∈l):uB k:=by
 induction l with
 |nil=>cases hk
 |cons a r ih =>
  rw[acF] at h;rcases List.mem_cons.1 hk with rfl|hk
  ·exact h.1
  ·exact ih h.2 hk
theorem aAL{c k:aj}(h:k∈c.kids):m7 k<m7 c:=by rw[acG c];have:=ao6 h;omega
theorem aw1{c:aj} : c.kids.length<m7 c:=by rw[acG];have:=ao7 c.kids;omega
def aak(c:aj):Bool:=decide (c.map.nodes.length+c.map.ag.length+c.pattern.graph.nodes.length+c.pattern.graph.ag.length+c.pattern.slots.length+c.pattern.tests.length=0)&&decide (c.pattern.vars=0)
theorem aAM{c:aj}(h:uB c):gK c=some (aak c):=by
 obtain⟨⟨⟨h1,h2⟩,h3,h4⟩,h5,_⟩:=aeE h;unfold gK aak;rw[gm (n:=((c.map.nodes.length:Nat):Int)+((c.map.ag.length:Nat):Int)) (by omega),gm (n:=((c.map.nodes.length:Nat):Int)+((c.map.ag.length:Nat):Int)+((c.pattern.graph.nodes.length:Nat):Int)) (by omega),
  gm (n:=((c.map.nodes.length:Nat):Int)+((c.map.ag.length:Nat):Int)+((c.pattern.graph.nodes.length:Nat):Int)+((c.pattern.graph.ag.length:Nat):Int)) (by omega),
  gm (n:=((c.map.nodes.length:Nat):Int)+((c.map.ag.length:Nat):Int)+((c.pattern.graph.nodes.length:Nat):Int)+((c.pattern.graph.ag.length:Nat):Int)+((c.pattern.slots.length:Nat):Int)) (by omega),
  gm (by omega)]
 by_cases h0:c.map.nodes.length+c.map.ag.length+c.pattern.graph.nodes.length+c.pattern.graph.ag.length+c.pattern.slots.length+c.pattern.tests.length=0
 ·rw[c7 h0,c7 (by omega)];rfl
 ·rw[jz h0,jz (by omega)];rfl
theorem aw2{c:aj}(h:uB c):dc c=some (aak c):=by
 obtain⟨⟨⟨h1,h2⟩,h3,h4⟩,h5,_⟩:=aeE h;unfold dc aak;rw[gm (n:=((c.map.nodes.length:Nat):Int)+((c.map.ag.length:Nat):Int)) (by omega),gm (n:=((c.map.nodes.length:Nat):Int)+((c.map.ag.length:Nat):Int)+((c.pattern.graph.nodes.length:Nat):Int)) (by omega),
  gm (n:=((c.map.nodes.length:Nat):Int)+((c.map.ag.length:Nat):Int)+((c.pattern.graph.nodes.length:Nat):Int)+((c.pattern.graph.ag.length:Nat):Int)) (by omega),gm (n:=((c.pattern.slots.length:Nat):Int)+((c.pattern.tests.length:Nat):Int)) (by omega)]
 simp only[aP];by_cases h0:c.map.nodes.length+c.map.ag.length+c.pattern.graph.nodes.length+c.pattern.graph.ag.length+c.pattern.slots.length+c.pattern.tests.length=0
 ·rw[c7 h0,if_pos (by omega),if_pos (by omega)];rfl
 ·rw[jz h0];split
  ·rw[if_neg (by omega)];rfl
  ·rfl
def af9(c:aj):Bool:=if c.kind=1 then decide (c.kids.length=0)&&aak c else if c.kind=2 then decide (c.kids.length=1)&&aak c else if c.kind=3\/c.kind=4 then decide (0<c.kids.length)&&aak c else if c.kind=5 then decide (c.kids.length=1) else false
theorem as1{c:aj}(h:uB c):gP c=some (af9 c):=by
 unfold gP af9;simp only[aP,aD (aw2 h)];by_cases h1:c.kind=1
 ·rw[if_pos h1,if_pos h1];by_cases h0:c.kids.length=0
  ·rw[if_pos (by omega),c7 h0,Bool.true_and]
  ·rw[if_neg (by omega),jz h0,Bool.false_and]
 rw[if_neg h1,if_neg h1];by_cases h2:c.kind=2
 ·rw[if_pos h2,if_pos h2];by_cases h0:c.kids.length=1
  ·rw[if_pos (by omega),c7 h0,Bool.true_and]
  ·rw[if_neg (by omega),jz h0,Bool.false_and]
 rw[if_neg h2,if_neg h2];by_cases h3:c.kind=3
 ·rw[if_pos h3,if_pos (show c.kind=3\/c.kind=4 from .inl h3)];by_cases h0:0<c.kids.length
  ·rw[if_pos (by omega),c7 h0,Bool.true_and]
  ·rw[if_neg (by omega),jz h0,Bool.false_and]
 rw[if_neg h3];by_cases h4:c.kind=4
 ·rw[if_pos h4,if_pos (show c.kind=3\/c.kind=4 from .inr h4)];by_cases h0:0<c.kids.length
  ·rw[if_pos (by omega),c7 h0,Bool.true_and]
  ·rw[if_neg (by omega),jz h0,Bool.false_and]
 rw[if_neg h4,if_neg (show ¬ (c.kind=3\/c.kind=4) by omega)];by_cases h5:c.kind=5
 ·rw[if_pos h5,if_pos h5];congr 1;by_cases h0:c.kids.length=1
  ·rw[c7 h0,c7 (by omega)]
  ·rw[jz h0,jz (by omega)]
 ·rw[if_neg h5,if_neg h5]
theorem ay8:∀ (n:Nat) (c:aj),m7 c<=n->m7 c<=1000->uB c->∃b,aT n c=some b/\cI n c=some b:=by
 intro n
 induction n with
 |zero=>intro c h;have:=aaH c;omega
 |succ n ih =>
  intro c hc azL hf;have hkl:=aw1 (c:=c);have hk:∀k∈c.kids,∃b,aT n k=some b/\cI n k=some b:=λk hk=>by have:=aAL hk;exact ih k (by omega) (by omega) (ahZ (aeE hf).2.2 hk)
  let w:aj->Bool:=λk=>(aT n k).getD false
  have hw1:∀k∈c.kids,aT n k=some (w k):=λk hk'=>by obtain⟨b,h1,_⟩:=hk k hk';simp only[w,h1,Option.getD_some]
  have hw2:∀k∈c.kids,cI n k=some (w k):=λk hk'=>by obtain⟨b,h1,h2⟩:=hk k hk';simp only[w,h1,h2,Option.getD_some]
  refine⟨af9 c&&c.kids.all w,?_,?_⟩
  ·have hcf:bF c.kids (λx=>bz (λy0=>aT n y0) x)=some (c.kids.any λk=>!w k):=qi _ (by omega) λx hx=>by unfold bz;rw[aD (hw1 x hx)]
   rw[rN] at hcf;unfold aT af9;simp only[aP,aD (aAM hf),aD hcf,Bool.not_not];by_cases h1:c.kind=1
   ·rw[if_pos h1,if_pos h1];by_cases h0:c.kids.length=0
    ·rw[if_pos (by omega),c7 h0,Bool.true_and];cases aak c<;>simp
    ·rw[if_neg (by omega),jz h0];rfl
   rw[if_neg h1,if_neg h1];by_cases h2:c.kind=2
   ·rw[if_pos h2,if_pos h2];by_cases h0:c.kids.length=1
    ·rw[if_pos (by omega),c7 h0,Bool.true_and];cases aak c<;>simp
    ·rw[if_neg (by omega),jz h0];rfl
   rw[if_neg h2,if_neg h2];by_cases h3:c.kind=3
   ·rw[if_pos h3,if_pos (show c.kind=3\/c.kind=4 from .inl h3)];by_cases h0:0<c.kids.length
    ·rw[if_pos (by omega),c7 h0,Bool.true_and];cases aak c<;>simp
    ·rw[if_neg (by omega),jz h0];rfl
   rw[if_neg h3];by_cases h4:c.kind=4
   ·rw[if_pos h4,if_pos (show c.kind=3\/c.kind=4 from .inr h4)];by_cases h0:0<c.kids.length
    ·rw[if_pos (by omega),c7 h0,Bool.true_and];cases aak c<;>simp
    ·rw[if_neg (by omega),jz h0];rfl
   rw[if_neg h4,if_neg (show ¬ (c.kind=3\/c.kind=4) by omega)];by_cases h5:c.kind=5
   ·rw[if_pos h5,if_pos h5];by_cases h0:c.kids.length=1
    ·rw[if_pos (by omega),c7 h0,Bool.true_and]
    ·rw[if_neg (by omega),jz h0];rfl
   ·rw[if_neg h5,if_neg h5];rfl
  ·unfold cI;rw[aD (as1 hf)];cases af9 c with
   |false=>rfl
   |true=>rw[cond_true,dA (bk (by omega)),Bool.true_and];rw[fM c.kids w (λ_=>some false) (λi hi eF=>by rw[eS hi,aD (hw2 _ (pz hi))]),iw];cases c.kids.all w<;>rfl
theorem ao8:∀ (n:Nat) (c:aj),dY n c=eB n c:=by
 intro n
 induction n with
 |zero=>intro c;rfl
 |succ n ih=>intro c;unfold dY eB;simp only[ih]
theorem ao9:∀ (n:Nat) (c:aj),m7 c<=n->m7 c<=1000->∃r,dY n c=some r:=by
 intro n
 induction n with
 |zero=>intro c h;have:=aaH c;omega
 |succ n ih =>
  intro c hc azL;have hkl:=aw1 (c:=c)
  suffices h:Ok (dY (n+1) c) (λ_=>True) from ⟨_,h.choose_spec.1⟩
  unfold dY;refine cr (bk (by omega)) ?_;refine fX (λj _=>True) (Nat.zero_le _) trivial (λj s eF _ hj _ hn=>?_) (λs _=>?_)
  ·refine lX hj ?_;have hk:=aAL (pz hj);obtain⟨r,hr⟩:=ih c.kids[j] (by omega) (by omega);exact ok_eq hr (hn _ trivial)
  ·exact bD (λ_=>.mk trivial) (λ_=>.mk trivial)
theorem apa{c:aj}(hc:m7 c<=1000)(hf:uB c):∃e,kL c=some e/\fk c=some e:=by
 obtain⟨b,h1,h2⟩:=ay8 fuel c (bk (by omega)) hc hf;obtain⟨r,h3⟩:=ao9 fuel c (bk (by omega)) hc;have h4:=h3;rw[ao8] at h4;unfold kL fk;rw[aD h1,aD h2];cases b with
 |false=>exact⟨_,rfl,rfl⟩
 |true=>rw[cond_true,cond_true,aD h3,aD h4];cases decide (12<r.1)<;>cases decide (3<r.2)<;>exact⟨_,rfl,rfl⟩
theorem ah0{t:Types}{p:ak}(h:rO t p=0\/rO t p=9):0<=p.vars/\p.vars<=12\/(cZ t).2=9\/cL p.graph=9:=by
 unfold rO at h;split at h
 ·rename_i h1;exact .inr (.inl (h.resolve_left h1))
 split at h
 ·rename_i h1;exact .inr (.inr (h.resolve_left h1))
 split at h
 ·rcases h with h|h<;>cases h
 split at h
 ·rcases h with h|h<;>cases h
 ·exact .inl (by omega)
theorem ad9(g:au):cL g≠9:=by
 unfold cL;split
 ·decide
 split
 ·decide
 split<;>decide
theorem apb{t:Types}(ht:yQ t){q:ak}(hq:agU q){v:Int}(hv:0<=v/\v<=12)(hvq:¬ q.vars<v):∃e,eO t q v=some e/\dF t v q=some e/\(e=0->0<=q.vars/\q.vars<=12):=by
 have hs:=hq.slots;have aCv:∀s:Int,dy q.slots (λx=>iJ x s)=some (acA q.slots s):=λs=>nH _ (by omega) λx _=>rfl
 have aCw:∀s:Int,gr q s=some (acA q.slots s):=λs=>by
  unfold gr acA;rw[dA (bk (by omega))];rw[fM q.slots (λy=>!decide (y.term.var=s)) (λ_=>some true) (λi hi eF=>by
   rw[eS hi];cases decide (q.slots[i].term.var=s)<;>rfl),iw]
  rw[<-Bool.not_not (List.any _ _),<-List.not_any_eq_all_not];simp only[Bool.not_not];cases q.slots.any λy=>decide (y.term.var=s)<;>simp
 have heq:dF t v q=eO t q v:=by unfold dF eO;rw[aP,if_neg hvq,aD (m6 ht.few hq),aD (iW ht.few hq)];simp only[aD (aCv _),aD (aCw _)]
 rw[heq]
 suffices h:Ok (eO t q v) (λe=>e=0->0<=q.vars/\q.vars<=12) from ⟨_,h.choose_spec.1,h.choose_spec.1,h.choose_spec.2⟩
 have hvT:=ht.valid;have key:rO t q=0\/rO t q=9->0<=q.vars/\q.vars<=12:=λh=>by
  rcases ah0 h with h|h|h
  ·exact h
  ·rw[hvT] at h;cases h
  ·exact absurd h (ad9 _)
 unfold eO;refine ok_eq (m6 ht.few hq) ?_;refine bD (λh9=>?_) (λ_=>.mk λh=>key (.inl h));have hvars:=key (.inr (bY h9));refine aji (λs:Int=>0<=s/\s<=12) (λs=>(q.vars-s).toNat) hv (by unfold fuel;omega) ?_;intro s eF hsv hn;refine bD (λhc=>?_) (λ_=>.mk λ_=>hvars);have hc:=bY hc;refine ok_eq (aCv s) ?_;refine bD (λ_=>?_) (λ_=>.mk λh=>key (.inl h));rw[gm (by omega)];exact hn _ ⟨by omega,by omega⟩ (by omega)
theorem ah1{n:Nat}{t:Types}{p:ak}{l:List aj}(hl:l.length<=1000)(h:∀k∈l,∃e,cQ n t p k=some e/\bW n t p k=some e) :
  ∃e,(cA (l.length<=fuel) <| bH (λi (s:Unit) aAN aFN=>thn (l[i]?) λaAO=>thn (cQ n t p aAO) λaw3=>cond (decide (aw3=0)) (aAN ()) <| some aw3) (l.length-0) 0 () λs=>some (0:Int))=some e /\
   (cA (l.length<=fuel) <| bH (λi (s:Unit) aAN aFN=>thn (l[i]?) λaAO=>thn (bW n t p aAO) λaw3=>cond (decide (aw3=0)) (aAN ()) <| some aw3) (l.length-0) 0 () λs=>some (0:Int))=some e:=by
 let w:aj->Int:=λk=>(cQ n t p k).getD 0
 have hw1:∀k∈l,cQ n t p k=some (w k):=λk hk'=>by obtain⟨b,h1,_⟩:=h k hk';simp only[w,h1,Option.getD_some]
 have hw2:∀k∈l,bW n t p k=some (w k):=λk hk'=>by obtain⟨b,h1,h2⟩:=h k hk';simp only[w,h1,h2,Option.getD_some]
 have hfl:l.length<=fuel:=bk (by omega);refine⟨agT w l,?_,?_⟩
 ·rw[dA hfl,fM l (λk=>decide (w k=0)) (λk=>some (w k)) (λi hi eF=>by rw[eS hi,aD (hw1 _ (pz hi))])];exact qR rfl
 ·rw[dA hfl,fM l (λk=>decide (w k=0)) (λk=>some (w k)) (λi hi eF=>by rw[eS hi,aD (hw2 _ (pz hi))])];exact qR rfl
theorem amo{t:Types}(ht:yQ t):∀ (n:Nat) (c:aj) (p:ak),m7 c<=n->m7 c<=1000->uB c->rD p.graph->0<=p.vars/\p.vars<=12->∃e,cQ n t p c=some e/\bW n t p c=some e:=by
 intro n
 induction n with
 |zero=>intro c p h;have:=aaH c;omega
 |succ n ih =>
  intro c p hc azL hf hpg hpv;have hkl:=aw1 (c:=c);obtain⟨hq,hm,hkf⟩:=aeE hf;have aCx:∀ (p':ak),rD p'.graph->0<=p'.vars/\p'.vars<=12->∀k∈c.kids,∃e,cQ n t p' k=some e/\bW n t p' k=some e:=λp' h1 h2 k hk=>by have:=aAL hk;exact ih k p' (by omega) (by omega) (ahZ hkf hk) h1 h2
  unfold cQ bW;rw[aP (p:=c.kind=5),aP (p:=c.kind=5)];by_cases h5:c.kind=5
  ·rw[if_pos h5,if_pos h5,aP (p:=c.pattern.vars<p.vars)];by_cases hv:c.pattern.vars<p.vars
   ·rw[if_pos hv];have hi:dF t p.vars c.pattern=some 20:=by unfold dF;rw[aP,if_pos hv]
    rw[aD hi];exact⟨_,rfl,rfl⟩
   ·rw[if_neg hv];obtain⟨e,he1,he2,he3⟩:=apb ht hq hpv hv;rw[aD he1,aD he2,aP (p:=e=0),aP (p:=e=0)];by_cases h0:¬ (e=0)
    ·rw[if_neg h0,if_neg h0];exact⟨_,rfl,rfl⟩
    have h0:=Decidable.of_not_not h0;rw[if_pos h0,if_pos h0];obtain⟨e2,hm1,_⟩:=awZ hpg hq.graph (m:=c.map);rw[aaj,aD hm1,aD hm1,aP (p:=e2=0),aP (p:=e2=0)];by_cases h2:¬ (e2=0)
    ·rw[if_neg h2,if_neg h2];exact⟨_,rfl,rfl⟩
    have h2:=Decidable.of_not_not h2;subst h2;rw[if_pos rfl,if_pos rfl];obtain⟨i1,i2⟩:=acE hpg hq.graph (m:=c.map) ⟨by omega,by omega⟩ hm1;rw[aD i1,aD i2];cases decide c.map.nodes.Nodup&&decide c.map.ag.Nodup with
    |false=>exact⟨_,rfl,rfl⟩
    |true=>exact ah1 (by omega) (aCx _ hq.graph (he3 h0))
  ·rw[if_neg h5,if_neg h5];exact ah1 (by omega) (aCx _ hpg hpv)
theorem as2{t:Types}(ht:yQ t){p:ak}(hp:agU p){c:aj}(hc:m7 c<=1000)(hf:uB c):∃e,jt t p c=some e/\dG t p c=some e:=by
 unfold jt dG;rw[aD (m6 ht.few hp),aD (iW ht.few hp),aP (p:=rO t p=0),aP (p:=rO t p=0)];by_cases h0:¬ (rO t p=0)
 ·rw[if_neg h0,if_neg h0];exact⟨_,rfl,rfl⟩
 have h0:=Decidable.of_not_not h0;rw[if_pos h0,if_pos h0];obtain⟨e,h1,h2⟩:=apa hc hf;rw[aD h1,aD h2,aP (p:=e=0),aP (p:=e=0)];by_cases h3:¬ (e=0)
 ·rw[if_neg h3,if_neg h3];exact⟨_,rfl,rfl⟩
 have h3:=Decidable.of_not_not h3;rw[if_pos h3,if_pos h3];have hv:0<=p.vars/\p.vars<=12:=by
  rcases ah0 (.inl h0) with h|h|h
  ·exact h
  ·rw[ht.valid] at h;cases h
  ·exact absurd h (ad9 _)
 obtain⟨e2,h4,h5⟩:=amo ht fuel c p (bk (by omega)) hc hf hp.graph hv;rw[aD h4,aD h5];exact⟨_,rfl,rfl⟩
theorem jy{l:List Int}{n:Nat}(h:agV l n):l.length<=n:=by
 have key:∀i (hi:i<l.length),(i:Int)<=l[i]:=by
  intro i
  induction i with
  |zero=>intro hi;exact (h.range _ (pz hi)).1
  |succ i ih=>intro hi;have h1:=ih (by omega);have h2:=(List.pairwise_iff_getElem.1 h.asc) i (i+1) (by omega) hi (by omega);omega
 rcases Nat.eq_zero_or_pos l.length with h0|h0
 ·omega
 ·have h1:=key (l.length-1) (by omega);have h2:=(h.range _ (pz (show l.length-1<l.length by omega))).2;omega
structure oN(r:aF):Prop where
 base:acB r
 cond:uB r.condition
 size:m7 r.condition<=1000
theorem ah2{r:aF}(hr:acB r):∃e,bS r=some e/\o3 r=some (if e=0 then (if (decide r.into.nodes.Nodup&&decide r.into.ag.Nodup)=true then 0 else 11) else e)/\(e=0->oE r.left.graph r.keep/\rE r.left.graph/\aCt (dW r.left.graph r.keep) r.right.graph r.into):=by
 have hk:=hr.keep;have hi:=hr.into;obtain⟨e,h1,h2,h3⟩:=yl hr.left.graph (p:=r.keep) ⟨by omega,by omega⟩;unfold bS o3;by_cases h0:¬ (e=0)
 ·have hx:dQ r.left.graph r.keep=some ((⟨[],[]⟩:au),(⟨[],[]⟩:ah),e):=by unfold dQ;rw[aD h1,aP,if_neg h0]
  rw[aD h2,aD hx,aP (p:=e=0),aP (p:=e=0),if_neg h0,if_neg h0];exact⟨e,rfl,by rw[if_neg h0],λh=>absurd h h0⟩
 have h0:=Decidable.of_not_not h0;subst h0;obtain⟨hp,hg⟩:=h3 rfl;have hx:=awY hp ⟨by omega,by omega⟩ h1;have hy:=ajE hp ⟨by omega,by omega⟩ h2;rw[aD h2,aD hx,c7 rfl,cond_true,cond_true,aD hy];have hfe:rD (dW r.left.graph r.keep):=by have a1:=jy hp.nodes;have a2:=jy hp.ag;have b1:=hg.nodes;have b2:=hg.ag;exact⟨by simp[dW];omega,by simp[dW];omega⟩
 obtain⟨e2,hm1,hm2⟩:=awZ hfe hr.right.graph (m:=r.into);simp only[aaj];rw[aD hm1,aD hm1];refine⟨e2,rfl,?_,λh=>⟨hp,hg,(hm2 h).1⟩⟩;rw[aP];by_cases h4:¬ (e2=0)
 ·rw[if_neg h4,if_neg h4]
 have h4:=Decidable.of_not_not h4;subst h4;rw[if_pos rfl,if_pos rfl,aD (acE hfe hr.right.graph ⟨by omega,by omega⟩ hm1).1];cases decide r.into.nodes.Nodup&&decide r.into.ag.Nodup<;>rfl
theorem acH{t:Types}{p:ak}(h:rO t p=0):rE p.graph/\dI t p.graph=true:=by
 unfold rO at h;split at h
 ·rename_i h1;exact absurd h h1
 split at h
 ·rename_i h1;exact absurd h h1
 split at h
 ·cases h
 rename_i _ h1 h2;exact⟨okG (Decidable.of_not_not h1),by simpa using h2⟩
structure OkR(t:Types)(r:aF):Prop where
 types:yQ t
 left:rE r.left.graph
 right:rE r.right.graph
 aga:dI t r.left.graph=true
 agb:dI t r.right.graph=true
theorem qb{n:Nat}{l:List Int} : ∀x∈mG n l,0<=x/\x<n:=λ_ hx=>(nV.1 hx).1
noncomputable def oa(t:Types)(r:aF):Int:=(bn t r).getD 0
theorem oO{t:Types}(ht:jB t){r:aF}(hr:oN r):mh t r=some (oa t r)/\bn t r=some (oa t r)/\(oa t r=0->OkR t r):=by
 suffices h:∃e,mh t r=some e/\bn t r=some e/\(e=0->OkR t r) by
  obtain⟨e,h1,h2,h3⟩:=h;have:oa t r=e:=by unfold oa;rw[h2];rfl
  rw[this];exact⟨h1,h2,h3⟩
 have hb:=hr.base;unfold mh bn;rw[aD (vR ht),aD (nI ht),aP (p:=(cZ t).2=0),aP (p:=(cZ t).2=0)];by_cases h1:¬ ((cZ t).2=0)
 ·rw[if_neg h1,if_neg h1];exact⟨_,rfl,rfl,λh=>absurd h h1⟩
 have h1:=Decidable.of_not_not h1;have hT:=xB ht h1;rw[if_pos h1,if_pos h1,aD (awS (by have:=hb.name;omega)),aD (adG (by have:=hb.name;omega))];cases kX r.name with
 |false=>exact⟨_,rfl,rfl,λh=>by cases h⟩
 |true =>
 rw[cond_true,cond_true,aD (m6 ht hb.left),aD (iW ht hb.left),aP (p:=rO t r.left=0),aP (p:=rO t r.left=0)];by_cases h2:¬ (rO t r.left=0)
 ·rw[if_neg h2,if_neg h2];exact⟨_,rfl,rfl,λh=>absurd h h2⟩
 have h2:=Decidable.of_not_not h2;rw[if_pos h2,if_pos h2,aD (ajC (r:=r) hT hb),aD (vS (r:=r) hT hb),aP (p:=og t r=0),aP (p:=og t r=0)];by_cases h3:¬ (og t r=0)
 ·rw[if_neg h3,if_neg h3];exact⟨_,rfl,rfl,λh=>absurd h h3⟩
 have h3:=Decidable.of_not_not h3;obtain⟨g1,g2⟩:=acH h2;obtain⟨g3,g4⟩:=wX h3;have hOk:OkR t r:=⟨hT,g1,g3,g2,g4⟩;obtain⟨e,k1,k2,k3⟩:=ah2 hb;have hi:=hb.into;rw[if_pos h3,if_pos h3,aD (show o3 ⟨r.name,r.left,r.right,r.keep,r.into,r.injective,r.condition⟩=_ from k2),aD (show bS ⟨r.name,r.left,r.right,r.keep,r.into,r.injective,r.condition⟩=_ from k1),aP (p:=e=0),aD (nJ (by omega)),aP (p:=r.into.nodes.Nodup)];by_cases h4:¬ (e=0)
 ·rw[if_neg h4,if_neg h4,aP,if_neg h4];exact⟨_,rfl,rfl,λh=>absurd h h4⟩
 have h4:=Decidable.of_not_not h4;rw[if_pos h4,if_pos h4,aD (nJ (by omega)),aP (p:=r.into.ag.Nodup)];by_cases n1:¬ r.into.nodes.Nodup
 ·rw[if_neg n1,jz n1];exact⟨_,rfl,rfl,λh=>by cases h⟩
 have n1:=Decidable.of_not_not n1;by_cases n2:¬ r.into.ag.Nodup
 ·rw[if_pos n1,if_neg n2,jz n2,Bool.and_false];exact⟨_,rfl,rfl,λh=>by cases h⟩
 have n2:=Decidable.of_not_not n2;rw[if_pos n1,if_pos n2,c7 n1,c7 n2,Bool.and_self,if_pos rfl,c7 rfl,cond_true];rw[aD (show lH ⟨r.name,r.left,r.right,r.keep,r.into,r.injective,r.condition⟩=_ from (aaG hb).1),aD (show cT ⟨r.name,r.left,r.right,r.keep,r.into,r.injective,r.condition⟩=_ from (aaG hb).2)];have hrn:=hb.right.graph.nodes;have hre:=hb.right.graph.ag;have l1:=mM r.right.graph.nodes.length r.into.nodes;have l2:=mM r.right.graph.ag.length r.into.ag;obtain⟨m1,m2⟩:=adK ht g3 g4 (nodes:=kj r) (ag:=lP r) qb qb (by unfold kj;omega) (by unfold lP;omega);rw[aD (show lI ⟨t.nodes,t.ag⟩ r.right.graph (kj r) (lP r)=_ from m1),aD m2];cases sH t r.right.graph (kj r) (lP r) with
 |false=>exact⟨_,rfl,rfl,λh=>by cases h⟩
 |true =>
 obtain⟨e2,c1,c2⟩:=as2 hT hb.left hr.size hr.cond;rw[cond_true,cond_true,aD c1,aD c2];exact⟨e2,rfl,rfl,λ_=>hOk⟩
def aCy(t:Types)(g:au)(nodes ag:List Int):List Int:=nodes.map (λn=>g.nodes.getD n.toNat default)++ag.map λn=>(t.nodes.length:Int)+(g.ag.getD n.toNat default).type
theorem aDW{t:Types}(ht:yQ t){g:au}(hg:rE g)(hb:dI t g=true){nodes ag:List Int}(hn:∀x∈nodes,0<=x/\x<g.nodes.length)(he:∀x∈ag,0<=x/\x<g.ag.length):∀x∈aCy t g nodes ag,0<=x/\x<(t.nodes.length+t.ag.length:Nat):=by
 intro x hx;unfold aCy at hx;rcases List.mem_append.1 hx with hx|hx
 ·obtain⟨i,hi,rfl⟩:=List.mem_map.1 hx;have h1:=hn i hi;have h2:i.toNat<g.nodes.length:=by omega
  have:=wW hb hg h2;rw[bI h2];omega
 ·obtain⟨i,hi,rfl⟩:=List.mem_map.1 hx;have h1:=he i hi;have h2:i.toNat<g.ag.length:=by omega
  have h3:=(hg.oK _ h2).1;unfold dI at hb;rw[Bool.and_eq_true] at hb;have h4:=bY (List.all_eq_true.1 hb.2 _ (pz h2));rw[bI h2] at h3 ⊢;omega
theorem ay9{g:au}{x:Int}(h:0<=x/\x<g.nodes.length):jd g.nodes x=some (g.nodes.getD x.toNat default):=by
 have hi:x.toNat<g.nodes.length:=by omega
 unfold jd;rw[if_pos h.1,List.getElem?_eq_getElem hi,bI hi]
theorem aza{g:au}{x:Int}(h:0<=x/\x<g.ag.length):jd g.ag x=some (g.ag.getD x.toNat default):=by
 have hi:x.toNat<g.ag.length:=by omega
 unfold jd;rw[if_pos h.1,List.getElem?_eq_getElem hi,bI hi]
section
variable{t:Types}(ht:yQ t){g:au}(hg:rE g)(hb:dI t g=true){nodes ag:List Int}(hn:∀x∈nodes,0<=x/\x<g.nodes.length)(he:∀x∈ag,0<=x/\x<g.ag.length)(hnl:nodes.length<=1000)(hel:ag.length<=1000)
include ht hg hb hn he
end
theorem acI{α:Type} [Inhabited α]{l m:List α}{i:Nat}(h:i<l.length):(l++m).getD i default=l.getD i default:=by simp[List.getD_eq_getElem?_getD,List.getElem?_append_left h]
theorem wZ{α:Type} [Inhabited α]{l m:List α}{i:Nat}(h:l.length<=i):(l++m).getD i default=m.getD (i-l.length) default:=by simp[List.getD_eq_getElem?_getD,List.getElem?_append_right h]
theorem abP{α β:Type} [Inhabited α] [Inhabited β](f:α->β){l:List α}{i:Nat}(h:i<l.length):(l.map f).getD i default=f (l.getD i default):=by simp[List.getD_eq_getElem?_getD,h]
theorem oP{α:Type} [Inhabited α]{l:List α}{i:Nat}(h:i<l.length):l.getD i default∈l:=by rw[show l.getD i default=l[i] by simp[h]];exact pz h
theorem aal{ns:List Int}{es:List Edge}(h1:ns.length<=40)(h2:es.length<=80)(h3:∀k∈ns,0<=k/\k<=99)(h4:∀e∈es,(0<=e.type/\e.type<=99)/\(0<=e.src/\e.src<ns.length)/\(0<=e.dst/\e.dst<ns.length)):cL ⟨ns,es⟩=0:=by
 unfold cL;dsimp only;rw[if_neg (by omega),if_neg,if_neg]
 ·intro hh;obtain⟨e,he,hb⟩:=List.any_eq_true.1 hh;obtain⟨g1,g2,g3⟩:=h4 e he;rw[Bool.not_eq_true'] at hb;unfold tM sB at hb;rw[c7 g1.1,c7 g1.2,c7 g2.1,c7 (by omega:e.src<=(ns.length:Int)-1),c7 g3.1,c7 (by omega:e.dst<=(ns.length:Int)-1)] at hb;cases hb
 ·intro hh;obtain⟨k,hk,hb⟩:=List.any_eq_true.1 hh;have:=h3 k hk;rw[Bool.not_eq_true'] at hb;unfold sB at hb;rw[c7 this.1,c7 this.2] at hb;cases hb
theorem rE.amp{g:au}(h:rE g){k:Int}(hk:k∈g.nodes):0<=k/\k<=99:=by obtain⟨j,hj,rfl⟩:=aaX hk;exact h.kind j hj
theorem rE.ah3{g:au}(h:rE g){e:Edge}(he:e∈g.ag):(0<=e.type/\e.type<=99)/\(0<=e.src/\e.src<g.nodes.length)/\(0<=e.dst/\e.dst<g.nodes.length):=by obtain⟨j,hj,rfl⟩:=aaX he;exact h.oK j hj
def upE(n:Nat)(e:Edge):Edge:=⟨e.type,e.src+n,e.dst+n⟩
def iz(g h:au):au:=⟨g.nodes++h.nodes,g.ag++h.ag.map (upE g.nodes.length)⟩
def iX(l m:List Int)(n:Nat):List Int:=l++m.map λx=>x+(n:Int)
theorem vt(g h:au):(iz g h).nodes.length=g.nodes.length+h.nodes.length:=by simp[iz]
theorem vu(g h:au):(iz g h).ag.length=g.ag.length+h.ag.length:=by simp[iz]
theorem ah4(l m:List Int)(n:Nat):(iX l m n).length=l.length+m.length:=by simp[iX]
theorem pn{l m:List Int}{n:Nat}{x:Int} : x∈iX l m n↔x∈l\/∃y∈m,y+n=x:=by simp[iX]
section
variable{g h:au}
theorem amq{i:Nat}(hi:i<g.nodes.length):(iz g h).nodes.getD i default=g.nodes.getD i default:=acI hi
theorem amr(i:Nat):(iz g h).nodes.getD (g.nodes.length+i) default=h.nodes.getD i default:=by show (g.nodes++h.nodes).getD _ default=_;rw[wZ (by omega),Nat.add_sub_cancel_left]
theorem ams{i:Nat}(hi:i<g.ag.length):(iz g h).ag.getD i default=g.ag.getD i default:=acI hi
theorem amt{i:Nat}(hi:i<h.ag.length):(iz g h).ag.getD (g.ag.length+i) default=upE g.nodes.length (h.ag.getD i default):=by show (g.ag++h.ag.map _).getD _ default=_;rw[wZ (by omega),Nat.add_sub_cancel_left,abP _ hi]
theorem aea(hg:rE g)(hh:rE h)(h1:g.nodes.length+h.nodes.length<=40)(h2:g.ag.length+h.ag.length<=80):cL (iz g h)=0:=by
 refine aal (by simp;omega) (by simp;omega) (λk hk=>?_) (λe he=>?_)
 ·rcases List.mem_append.1 hk with hk|hk
  ·exact hg.amp hk
  ·exact hh.amp hk
 ·rw[List.length_append];rcases List.mem_append.1 he with he|he
  ·have:=hg.ah3 he;omega
  ·obtain⟨e,hf,rfl⟩:=List.mem_map.1 he;have:=hh.ah3 hf;unfold upE;dsimp only;omega
theorem aaI{t:Types}{g:au} : dI t g=true↔(∀n∈g.nodes,n<t.nodes.length)/\∀e∈g.ag,e.type<t.ag.length:=by unfold dI;rw[Bool.and_eq_true,List.all_eq_true,List.all_eq_true];simp only[decide_eq_true_eq]
theorem aeb{t:Types}(hg:dI t g=true)(hh:dI t h=true):dI t (iz g h)=true:=by
 rw[aaI] at hg hh ⊢;refine⟨λn hn=>?_,λe he=>?_⟩
 ·rcases List.mem_append.1 hn with hn|hn
  ·exact hg.1 n hn
  ·exact hh.1 n hn
 ·rcases List.mem_append.1 he with he|he
  ·exact hg.2 e he
  ·obtain⟨e,hf,rfl⟩:=List.mem_map.1 he;exact hh.2 e hf
end
theorem amu{l m:List Int}{n k:Nat}(hl:agV l n)(hm:agV m k):agV (iX l m n) ((n+k:Nat):Int):=by
 refine⟨λx hx=>?_,?_⟩
 ·rcases pn.1 hx with hx|⟨y,hy,rfl⟩
  ·have:=hl.range x hx;omega
  ·have:=hm.range y hy;omega
 ·refine List.pairwise_append.2 ⟨hl.asc,List.pairwise_map.2 (hm.asc.imp λh=>by omega),λx hx y hy=>?_⟩;obtain⟨z,hz,rfl⟩:=List.mem_map.1 hy;have:=hl.range x hx;have:=hm.range z hz;omega
theorem amv{l m:List Int}{n:Nat}(hm:∀y∈m,0<=y){x:Int}(hx:x<n):x∈iX l m n↔x∈l:=by
 rw[pn];refine⟨λh=>?_,.inl⟩;rcases h with h|⟨y,hy,e⟩
 ·exact h
 ·have:=hm y hy;omega
theorem amw{l m:List Int}{n:Nat}(hl:∀y∈l,y<n){x:Int}(hx:0<=x):x+n∈iX l m n↔x∈m:=by
 rw[pn];refine⟨λh=>?_,λh=>.inr ⟨x,h,rfl⟩⟩;rcases h with h|⟨y,hy,e⟩
 ·have:=hl _ h;omega
 ·rw[show x=y by omega];exact hy
theorem aeF{l m:List Int}{n i:Nat}(hi:i<l.length):(iX l m n).getD i default=l.getD i default:=acI hi
theorem aeG{l m:List Int}{n i:Nat}(hi:i<m.length):(iX l m n).getD (l.length+i) default=m.getD i default+n:=by show (l++m.map _).getD _ default=_;rw[wZ (by omega),Nat.add_sub_cancel_left,abP _ hi]
section
variable{g h:au}{p q:aO}
def apY(g:au)(p q:aO):aO:=⟨iX p.nodes q.nodes g.nodes.length,iX p.ag q.ag g.ag.length⟩
theorem aeH(hg:rE g){x:Int}(hx:0<=x/\x<g.ag.length):(0<=(g.ag.getD x.toNat default).src/\(g.ag.getD x.toNat default).src<g.nodes.length)/\(0<=(g.ag.getD x.toNat default).dst/\(g.ag.getD x.toNat default).dst<g.nodes.length):=(hg.oK x.toNat (by omega)).2
theorem acJ{x:Int}(hx:0<=x/\x<g.ag.length):(iz g h).ag.getD x.toNat default=g.ag.getD x.toNat default:=ams (by omega)
theorem acK{x:Int}(hx:0<=x/\x<h.ag.length):(iz g h).ag.getD (x+g.ag.length).toNat default=upE g.nodes.length (h.ag.getD x.toNat default):=by rw[show (x+g.ag.length).toNat=g.ag.length+x.toNat by omega];exact amt (by omega)
theorem aam{x:Int}(hx:0<=x/\x<g.nodes.length):(iz g h).nodes.getD x.toNat default=g.nodes.getD x.toNat default:=amq (by omega)
theorem aan{x:Int}(hx:0<=x):(iz g h).nodes.getD (x+g.nodes.length).toNat default=h.nodes.getD x.toNat default:=by rw[show (x+g.nodes.length).toNat=g.nodes.length+x.toNat by omega];exact amr _
theorem apc(hg:rE g)(hh:rE h)(hp:oE g p)(hq:oE h q):oE (iz g h) (apY g p q):=by
 refine⟨?_,?_,λe he=>?_⟩
 ·rw[vt];exact amu hp.nodes hq.nodes
 ·rw[vu];exact amu hp.ag hq.ag
 ·rcases pn.1 he with he|⟨y,hy,rfl⟩
  ·rw[acJ (hp.ag.range e he)];exact⟨pn.2 (.inl (hp.ends e he).1),pn.2 (.inl (hp.ends e he).2)⟩
  ·rw[acK (hq.ag.range y hy)];exact⟨pn.2 (.inr ⟨_,(hq.ends y hy).1,rfl⟩),pn.2 (.inr ⟨_,(hq.ends y hy).2,rfl⟩)⟩
theorem apZ(l m:List Int)(x:Int):kZ (l++m) x=kZ l x+kZ m x:=by simp[kZ]
theorem azb{m:List Int}{x:Int}(h:∀y∈m,¬ y<x):kZ m x=0:=by unfold kZ;rw[List.countP_eq_zero];intro y hy;simpa using h y hy
theorem aw4{m:List Int}{x:Int}(h:∀y∈m,y<x):kZ m x=m.length:=by unfold kZ;rw[List.countP_eq_length];intro y hy;simpa using h y hy
theorem ah5{l m:List Int}{n:Nat}(hm:∀y∈m,0<=y){x:Int}(hx:x<n):kZ (iX l m n) x=kZ l x:=by rw[iX,apZ,azb (m:=m.map _),Nat.add_zero];intro y hy;obtain⟨z,hz,rfl⟩:=List.mem_map.1 hy;have:=hm z hz;omega
theorem ah6{l m:List Int}{n:Nat}(hl:∀y∈l,y<n){x:Int}(hx:0<=x):kZ (iX l m n) (x+n)=l.length+kZ m x:=by rw[iX,apZ,aw4 (m:=l) λy hy=>by have:=hl y hy;omega];congr 1;unfold kZ;rw[List.countP_map];congr 1;funext y;simp only[Function.comp];rw[decide_eq_decide];omega
theorem as3(hg:rE g)(hh:rE h)(hp:oE g p)(hq:oE h q):dW (iz g h) (apY g p q)=iz (dW g p) (dW h q):=by
 have np:∀y∈p.nodes,y<g.nodes.length:=λy hy=>(hp.nodes.range y hy).2
 have nq:∀y∈q.nodes,0<=y:=λy hy=>(hq.nodes.range y hy).1
 unfold dW;show (⟨(iX p.nodes q.nodes g.nodes.length).map _,(iX p.ag q.ag g.ag.length).map _⟩:au)=⟨p.nodes.map _++q.nodes.map _,p.ag.map _++(q.ag.map _).map _⟩;simp only[iX,List.map_append,List.map_map];congr 1
 ·congr 1
  ·exact List.map_congr_left λx hx=>aam (hp.nodes.range x hx)
  ·exact List.map_congr_left λx hx=>aan (hq.nodes.range x hx).1
 ·congr 1
  ·refine List.map_congr_left λx hx=>?_
   have h1:=hp.ag.range x hx;have h2:=aeH hg h1;rw[acJ h1];show (⟨_,(kZ (iX p.nodes q.nodes g.nodes.length) _:Int),(kZ (iX p.nodes q.nodes g.nodes.length) _:Int)⟩:Edge)=_;rw[ah5 nq h2.1.2,ah5 nq h2.2.2]
  ·refine List.map_congr_left λx hx=>?_
   have h1:=hq.ag.range x hx;have h2:=aeH hh h1;simp only[Function.comp];rw[acK h1];show (⟨_,(kZ (iX p.nodes q.nodes g.nodes.length) (_+_):Int),(kZ (iX p.nodes q.nodes g.nodes.length) (_+_):Int)⟩:Edge)=_;rw[ah6 np h2.1.1,ah6 np h2.2.1];simp only[upE,List.length_map];congr 1<;>omega
end
structure vT(a b:au)(m:ah):Prop where
 adJ:m.nodes.length=a.nodes.length
 ajF:m.ag.length=a.ag.length
 node:∀i,i<a.nodes.length->(0<=m.nodes.getD i default/\m.nodes.getD i default<b.nodes.length)/\b.nodes.getD (m.nodes.getD i default).toNat default=a.nodes.getD i default
 oK:∀i,i<a.ag.length->(0<=m.ag.getD i default/\m.ag.getD i default<b.ag.length)/\b.ag.getD (m.ag.getD i default).toNat default=⟨(a.ag.getD i default).type,m.nodes.getD (a.ag.getD i default).src.toNat default,m.nodes.getD (a.ag.getD i default).dst.toNat default⟩
def agc(b:au)(m k:ah):ah:=⟨iX m.nodes k.nodes b.nodes.length,iX m.ag k.ag b.ag.length⟩
theorem as4{a b c d:au}{m k:ah}(ha:rE a)(hc:rE c)(hm:vT a b m)(hk:vT c d k):vT (iz a c) (iz b d) (agc b m k):=by
 have n1:=hm.adJ;have n2:=hk.adJ;have e1:=hm.ajF;have e2:=hk.ajF;refine⟨by rw[vt];simp[agc,ah4];omega,by rw[vu];simp[agc,ah4];omega,λi hi=>?_,λi hi=>?_⟩
 ·rw[vt] at hi ⊢;show (0<=(iX m.nodes k.nodes b.nodes.length).getD i default/\(iX m.nodes k.nodes b.nodes.length).getD i default<_)/\(iz b d).nodes.getD ((iX m.nodes k.nodes b.nodes.length).getD i default).toNat default=_;by_cases h:i<a.nodes.length
  ·have:=hm.node i h;rw[aeF (by omega),amq h,aam this.1,this.2];exact⟨by omega,rfl⟩
  ·have:=hk.node (i-a.nodes.length) (by omega);rw[show i=m.nodes.length+(i-a.nodes.length) by omega,aeG (by omega),aan this.1.1,this.2,n1,amr];exact⟨by omega,rfl⟩
 ·rw[vu] at hi ⊢;show (0<=(iX m.ag k.ag b.ag.length).getD i default/\(iX m.ag k.ag b.ag.length).getD i default<_)/\(iz b d).ag.getD ((iX m.ag k.ag b.ag.length).getD i default).toNat default=⟨_,(iX m.nodes k.nodes b.nodes.length).getD _ default,(iX m.nodes k.nodes b.nodes.length).getD _ default⟩;by_cases h:i<a.ag.length
  ·have:=hm.oK i h;have he:=ha.oK i h;rw[aeF (by omega),ams h,acJ this.1,this.2,aeF (by omega),aeF (by omega)];exact⟨by omega,rfl⟩
  ·have hj:i-a.ag.length<c.ag.length:=by omega
   have:=hk.oK (i-a.ag.length) hj;have he:=hc.oK _ hj;rw[show i=m.ag.length+(i-a.ag.length) by omega,aeG (by omega),acK this.1,this.2,e1,amt (by omega)];refine⟨by omega,?_⟩;simp only[upE];rw[show ((c.ag.getD (i-a.ag.length) default).src+(a.nodes.length:Int)).toNat=m.nodes.length+(c.ag.getD (i-a.ag.length) default).src.toNat by omega,aeG (by omega)];rw[show ((c.ag.getD (i-a.ag.length) default).dst+(a.nodes.length:Int)).toNat=m.nodes.length+(c.ag.getD (i-a.ag.length) default).dst.toNat by omega,aeG (by omega)]
theorem agd{l m:List Int}{n:Nat}(hl:l.Nodup)(hm:m.Nodup)(h1:∀x∈l,x<n)(h2:∀x∈m,0<=x):(iX l m n).Nodup:=by
 refine List.nodup_append.2 ⟨hl,?_,λx hx y hy=>?_⟩
 ·refine List.pairwise_map.2 (hm.imp λh e=>h (by omega))
 ·obtain⟨z,hz,rfl⟩:=List.mem_map.1 hy;have:=h1 x hx;have:=h2 z hz;omega
theorem age{t:Types}{g:au}{ns es:List Int} : sH t g ns es=true↔(∀x∈ns,(t.nodes.getD (g.nodes.getD x.toNat default).toNat default).abs=false)/\∀x∈es,n7 t (g.ag.getD x.toNat default).type (g.nodes.getD (g.ag.getD x.toNat default).src.toNat default) (g.nodes.getD (g.ag.getD x.toNat default).dst.toNat default)=true:=by unfold sH;rw[Bool.and_eq_true,List.all_eq_true,List.all_eq_true];simp only[Bool.not_eq_true']
theorem apd{t:Types}{g h:au}{m k:ah}(hg:rE g)(hh:rE h)(mn:∀x∈m.nodes,x<g.nodes.length)(kn:∀x∈k.nodes,0<=x)(me:∀x∈m.ag,x<g.ag.length)(ke:∀x∈k.ag,0<=x)
  (h1:sH t g (mG g.nodes.length m.nodes) (mG g.ag.length m.ag)=true) (h2:sH t h (mG h.nodes.length k.nodes) (mG h.ag.length k.ag)=true) :
  sH t (iz g h) (mG (iz g h).nodes.length (agc g m k).nodes) (mG (iz g h).ag.length (agc g m k).ag)=true:=by
 rw[age] at h1 h2 ⊢;refine⟨λx hx=>?_,λx hx=>?_⟩
 ·obtain⟨hr,hn⟩:=nV.1 hx;rw[vt] at hr;by_cases hlt:x<g.nodes.length
  ·rw[aam ⟨hr.1,hlt⟩];exact h1.1 x (nV.2 ⟨⟨hr.1,hlt⟩,λhx=>hn ((amv kn hlt).2 hx)⟩)
  ·obtain⟨y,rfl⟩:∃y,x=y+g.nodes.length:=⟨x-g.nodes.length,by omega⟩;rw[aan (by omega)];exact h2.1 y (nV.2 ⟨by omega,λhy=>hn ((amw mn (by omega)).2 hy)⟩)
 ·obtain⟨hr,hn⟩:=nV.1 hx;rw[vu] at hr;by_cases hlt:x<g.ag.length
  ·have he:=aeH hg ⟨hr.1,hlt⟩;rw[acJ ⟨hr.1,hlt⟩,aam he.1,aam he.2];exact h1.2 x (nV.2 ⟨⟨hr.1,hlt⟩,λhx=>hn ((amv ke hlt).2 hx)⟩)
  ·obtain⟨y,rfl⟩:∃y,x=y+g.ag.length:=⟨x-g.ag.length,by omega⟩;have he:=aeH hh (x:=y) (by omega);rw[acK (by omega)];simp only[upE];rw[aan he.1.1,aan he.2.1];exact h2.2 y (nV.2 ⟨by omega,λhy=>hn ((amw me (by omega)).2 hy)⟩)
theorem ajJ{a b:au}(ha:rD a)(hb:rD b){m:ah} : Ok (b7 a b m) (λe=>e=0↔cL a=0/\cL b=0/\vT a b m):=by
 have ha1:=ha.nodes;have ha2:=ha.ag;unfold b7;refine ok_eq (kW ha) ?_;refine bD (λh1=>?_) (λh1=>.mk ⟨λh=>absurd h (dm h1),λh=>absurd h.1 (dm h1)⟩);have h1:=bY h1;refine ok_eq (kW hb) ?_;refine bD (λh2=>?_) (λh2=>.mk ⟨λh=>absurd h (dm h2),λh=>absurd h.2.1 (dm h2)⟩);have h2:=bY h2;have ga:=okG h1;have gb:=okG h2;refine bD (λh3=>?_) (λh3=>.mk (iff_of_false (by decide) λh=>absurd (show ((m.nodes.length:Nat):Int)=a.nodes.length by rw[h.2.2.adJ]) (dm h3)));refine bD (λh4=>?_) (λh4=>.mk (iff_of_false (by decide) λh=>absurd (show ((m.ag.length:Nat):Int)=a.ag.length by rw[h.2.2.ajF]) (dm h4)));have h3:m.nodes.length=a.nodes.length:=by have:=bY h3;omega
 have h4:m.ag.length=a.ag.length:=by have:=bY h4;omega
 refine cr (bk (by omega)) ?_;refine fX (λj _=>∀i,i<a.nodes.length->i<j->(0<=m.nodes.getD i default/\m.nodes.getD i default<b.nodes.length)/\b.nodes.getD (m.nodes.getD i default).toNat default=a.nodes.getD i default) (Nat.zero_le _) (λi _ h=>by omega) (λj s eF _ hj hI hn=>?_) (λs hI=>?_)
 ·have hja:j<a.nodes.length:=by omega
  have e1:m.nodes.getD j default=m.nodes[j]:=bI hj;refine lX hj ?_;refine bD (λc=>.mk (iff_of_false (by decide) λh=>by have:=(h.2.2.node j hja).1;rw[e1] at this;have:=bY c;omega)) (λc1=>?_);refine bD (λc=>.mk (iff_of_false (by decide) λh=>by have:=(h.2.2.node j hja).1;rw[e1] at this;have:=bY c;omega)) (λc2=>?_);have c1:=dm c1;have c2:=dm c2;refine iQ (by omega) (by omega) ?_;refine lX hja ?_;have e2:b.nodes.getD m.nodes[j].toNat default=b.nodes[m.nodes[j].toNat]'(by omega):=bI (by omega);have e3:a.nodes.getD j default=a.nodes[j]:=bI hja;refine bD (λc=>hn _ λi hi hij=>?_) (λc=>.mk (iff_of_false (by decide) λh=>by have:=(h.2.2.node j hja).2;rw[e1,e2,e3] at this;exact absurd this (dm c)));rcases Nat.lt_or_ge i j with h5|h5
  ·exact hI i hi h5
  ·have:i=j:=by omega
   subst this;rw[e1,e2,e3];exact⟨by omega,bY c⟩
 refine cr (bk (by omega)) ?_;refine fX (λj _=>∀i,i<a.ag.length->i<j->(0<=m.ag.getD i default/\m.ag.getD i default<b.ag.length)/\b.ag.getD (m.ag.getD i default).toNat default=⟨(a.ag.getD i default).type,m.nodes.getD (a.ag.getD i default).src.toNat default,m.nodes.getD (a.ag.getD i default).dst.toNat default⟩) (Nat.zero_le _) (λi _ h=>by omega) (λj s eF _ hj hI2 hn=>?_) (λs hI2=>.mk ⟨λ_=>⟨h1,h2,h3,h4,λi hi=>hI i hi (by omega),λi hi=>hI2 i hi (by omega)⟩,λ_=>rfl⟩);have hja:j<a.ag.length:=by omega
 have e1:m.ag.getD j default=m.ag[j]:=bI hj;refine lX hj ?_;refine bD (λc=>.mk (iff_of_false (by decide) λh=>by have:=(h.2.2.oK j hja).1;rw[e1] at this;have:=bY c;omega)) (λc1=>?_);refine bD (λc=>.mk (iff_of_false (by decide) λh=>by have:=(h.2.2.oK j hja).1;rw[e1] at this;have:=bY c;omega)) (λc2=>?_);have c1:=dm c1;have c2:=dm c2;refine lX hja ?_;refine iQ (by omega) (by omega) ?_;have he:=ga.oK j hja;have e3:a.ag.getD j default=a.ag[j]:=bI hja;have e2:b.ag.getD m.ag[j].toNat default=b.ag[m.ag[j].toNat]'(by omega):=bI (by omega);rw[e3] at he;have no:∀ {n:Int},n≠0->(b.ag[m.ag[j].toNat]'(by omega)=⟨a.ag[j].type,m.nodes.getD a.ag[j].src.toNat default,m.nodes.getD a.ag[j].dst.toNat default⟩->False)->(n=0↔cL a=0/\cL b=0/\vT a b m):=λhn hx=>⟨λh=>absurd h hn,λh=>by
  have:=(h.2.2.oK j hja).2;rw[e1,e2,e3] at this;exact (hx this).elim⟩
 refine bD (λc3=>?_) (λc=>.mk (no (by decide) λh=>absurd (by rw[h]) (dm c)));refine iQ he.2.1.1 (by omega) ?_;have e4:m.nodes.getD a.ag[j].src.toNat default=m.nodes[a.ag[j].src.toNat]'(by omega):=bI (by omega);have e5:m.nodes.getD a.ag[j].dst.toNat default=m.nodes[a.ag[j].dst.toNat]'(by omega):=bI (by omega);rw[e4,e5] at no;refine bD (λc4=>?_) (λc=>.mk (no (by decide) λh=>absurd (by rw[h]) (dm c)));refine iQ he.2.2.1 (by omega) ?_;refine bD (λc5=>hn _ λi hi hij=>?_) (λc=>.mk (no (by decide) λh=>absurd (by rw[h]) (dm c)));rcases Nat.lt_or_ge i j with h5|h5
 ·exact hI2 i hi h5
 ·have:i=j:=by omega
  subst this;have c3:=bY c3;have c4:=bY c4;have c5:=bY c5;rw[e1,e2,e3,e4,e5];refine⟨by omega,?_⟩;rw[c3,c4,c5]
def aao:aj:=⟨1,[],⟨[],[]⟩,⟨⟨[],[]⟩,[],0,[]⟩⟩
structure mH(t:Types)(r:aF):Prop where
 types:(cZ t).2=0
 name:kX r.name=true
 pat:rO t r.left=0
 right:og t r=0
 part:oE r.left.graph r.keep
 mor:vT (dW r.left.graph r.keep) r.right.graph r.into
 nn:r.into.nodes.Nodup
 ne:r.into.ag.Nodup
 make:sH t r.right.graph (kj r) (lP r)=true
theorem mH.ym{t:Types}{r:aF}(h:mH t r):rE r.left.graph:=(acH h.pat).1
theorem mH.aga{t:Types}{r:aF}(h:mH t r):dI t r.left.graph=true:=(acH h.pat).2
theorem mH.rok{t:Types}{r:aF}(h:mH t r):rE r.right.graph:=(wX h.right).1
theorem mH.agb{t:Types}{r:aF}(h:mH t r):dI t r.right.graph=true:=(wX h.right).2
theorem ah7{t:Types}{g:au}(hv:(cZ t).2=0)(h1:cL g=0)(h2:dI t g=true):rO t ⟨g,[],0,[]⟩=0:=by unfold rO;rw[if_neg (λh=>h hv)];dsimp only;rw[if_neg (λh=>h h1),if_neg (by rw[h2];decide),if_neg (by omega),if_neg (by simp),if_neg (by simp),if_neg (by simp[uw,agT,yL]),if_neg (by simp[adH])]
theorem aec{t:Types}{r:aF}{g:au}(hr:r.right=⟨g,[],0,[]⟩)(hl:r.left.vars=0)(h1:cL g=0)(h2:dI t g=true):og t r=0:=by unfold og;rw[hr];dsimp only;rw[if_neg (λh=>h h1),if_neg (by rw[h2];decide),if_neg (by rw[hl];decide),if_neg (by simp),if_neg (by simp)];simp[agT,yL]
theorem aeI{g:au}{p:aO}(hg:rE g)(hp:oE g p):rE (dW g p):=by
 have a1:=jy hp.nodes;have a2:=jy hp.ag;have b1:=hg.nodes;have b2:=hg.ag;refine okG (aal (by simp;omega) (by simp;omega) (λk hk=>?_) (λe he=>?_))
 ·obtain⟨x,hx,rfl⟩:=List.mem_map.1 hk;have:=hp.nodes.range x hx;exact hg.kind x.toNat (by omega)
 ·obtain⟨x,hx,rfl⟩:=List.mem_map.1 he;have h1:=hp.ag.range x hx;have h2:=(hg.oK x.toNat (by omega)).1;obtain⟨e1,e2⟩:=hp.ends x hx;obtain⟨j1,_⟩:=wY hp.nodes.asc e1;obtain⟨j2,_⟩:=wY hp.nodes.asc e2;simp only[List.length_map];omega
theorem vT.qS{a b:au}{m:ah}(h:vT a b m):∀x∈m.nodes,0<=x/\x<b.nodes.length:=λx hx=>by obtain⟨j,hj,rfl⟩:=aaX hx;have:=h.adJ;exact (h.node j (by omega)).1
theorem vT.vU{a b:au}{m:ah}(h:vT a b m):∀x∈m.ag,0<=x/\x<b.ag.length:=λx hx=>by obtain⟨j,hj,rfl⟩:=aaX hx;have:=h.ajF;exact (h.oK j (by omega)).1
def acL(a b:aF):aF:=⟨a.name,⟨iz a.left.graph b.left.graph,[],0,[]⟩,⟨iz a.right.graph b.right.graph,[],0,[]⟩,apY a.left.graph a.keep b.keep,agc a.right.graph a.into b.into,false,aao⟩
theorem ape{t:Types}{a b:aF}(ha:mH t a)(hb:mH t b)(h1:a.left.graph.nodes.length+b.left.graph.nodes.length<=40)(h2:a.left.graph.ag.length+b.left.graph.ag.length<=80)(h3:a.right.graph.nodes.length+b.right.graph.nodes.length<=40)(h4:a.right.graph.ag.length+b.right.graph.ag.length<=80):mH t (acL a b) where
 types:=ha.types
 name:=ha.name
 pat:=ah7 ha.types (aea ha.ym hb.ym h1 h2) (aeb ha.aga hb.aga)
 right:=aec rfl rfl (aea ha.rok hb.rok h3 h4) (aeb ha.agb hb.agb)
 part:=apc ha.ym hb.ym ha.part hb.part
 mor:=by show vT (dW (iz a.left.graph b.left.graph) (apY a.left.graph a.keep b.keep)) (iz a.right.graph b.right.graph) (agc a.right.graph a.into b.into);rw[as3 ha.ym hb.ym ha.part hb.part];exact as4 (aeI ha.ym ha.part) (aeI hb.ym hb.part) ha.mor hb.mor
 nn:=agd ha.nn hb.nn (λx hx=>(ha.mor.qS x hx).2) (λx hx=>(hb.mor.qS x hx).1)
 ne:=agd ha.ne hb.ne (λx hx=>(ha.mor.vU x hx).2) (λx hx=>(hb.mor.vU x hx).1)
 make:=apd ha.rok hb.rok (λx hx=>(ha.mor.qS x hx).2) (λx hx=>(hb.mor.qS x hx).1) (λx hx=>(ha.mor.vU x hx).2) (λx hx=>(hb.mor.vU x hx).1) ha.make hb.make
def ct(im keep:List Int)(i:Nat):Bool:=(List.range im.length).any λk=>decide (im.getD k default=(i:Int)) && !decide ((k:Int)∈keep)
theorem oQ{im keep:List Int}{i:Nat} : ct im keep i=true↔∃k,k<im.length/\im.getD k default=(i:Int)/\(k:Int) ∉ keep:=by unfold ct;rw[List.any_eq_true];simp only[List.mem_range,Bool.and_eq_true,decide_eq_true_eq,Bool.not_eq_true',decide_eq_false_iff_not]
def leftOf(n:Nat)(mN dV oR eE:List Int):List Int:=((List.range n).filter λi=>!ct mN dV i && !ct oR eE i).map λi:Nat=>(i:Int)
def oS(n:Nat)(mN dV oR eE:List Int):Bool:=(List.range n).all λi=>!(decide ((i:Int)∈mN)&&decide ((i:Int)∈oR))||(ct mN dV i == ct oR eE i)
theorem aed(n:Nat)(mN dV oR eE:List Int):leftOf n mN dV oR eE=leftOf n oR eE mN dV:=by unfold leftOf;congr 2;funext i;exact Bool.and_comm _ _
theorem w5{n:Nat}{mN dV oR eE:List Int} : oS n mN dV oR eE=true↔∀i,i<n->(i:Int)∈mN->(i:Int)∈oR->ct mN dV i=ct oR eE i:=by
 unfold oS;rw[List.all_eq_true];refine⟨λh i hi h1 h2=>?_,λh i hi=>?_⟩
 ·have:=h i (List.mem_range.2 hi);rw[c7 h1,c7 h2] at this;simpa using this
 ·have hi:=List.mem_range.1 hi;by_cases h1:(i:Int)∈mN
  ·by_cases h2:(i:Int)∈oR
   ·rw[h i hi h1 h2];simp
   ·simp[h2]
  ·simp[h1]
theorem agf{n:Nat}{mN dV oR eE:List Int}(h:oS n mN dV oR eE=true):oS n oR eE mN dV=true:=w5.2 λi hi h1 h2=>(w5.1 h i hi h2 h1).symm
theorem yo{n:Nat}{mN dV oR eE:List Int}{x:Int} : x∈leftOf n mN dV oR eE↔(0<=x/\x<n)/\ct mN dV x.toNat=false/\ct oR eE x.toNat=false:=by
 unfold leftOf;rw[List.mem_map];constructor
 ·rintro⟨i,hi,rfl⟩;obtain⟨h1,h2⟩:=List.mem_filter.1 hi;have h1:=List.mem_range.1 h1;simp only[Bool.and_eq_true,Bool.not_eq_true'] at h2;rw[Int.toNat_natCast];exact⟨by omega,h2⟩
 ·rintro⟨h1,h2⟩;refine⟨x.toNat,List.mem_filter.2 ⟨List.mem_range.2 (by omega),by simp[h2.1,h2.2]⟩,by omega⟩
theorem agh(n:Nat)(mN dV oR eE:List Int):agV (leftOf n mN dV oR eE) n:=by refine⟨λx hx=>(yo.1 hx).1,?_⟩;refine List.pairwise_map.2 ((List.pairwise_lt_range.filter _).imp λh=>by omega)
theorem agi{l:List Int}(h:l.Nodup){i j:Nat}(hi:i<l.length)(hj:j<l.length)(e:l.getD i default=l.getD j default):i=j:=by rw[bI hi,bI hj] at e;exact (List.getElem_inj h).1 e
theorem ajK{n:Nat}{mN dV oR eE:List Int}(hn:mN.Nodup)(hr:∀x∈mN,0<=x/\x<n)(al:oS n mN dV oR eE=true){k:Nat}(hk:k<mN.length)(kk:(k:Int)∈dV):mN.getD k default∈leftOf n mN dV oR eE:=by
 have hx:=hr _ (oP hk);have e:((mN.getD k default).toNat:Int)=mN.getD k default:=by omega
 have h1:ct mN dV (mN.getD k default).toNat=false:=by rw[Bool.eq_false_iff];intro h;obtain⟨j,hj,e2,hj2⟩:=oQ.1 h;rw[e] at e2;exact hj2 (agi hn hj hk e2 ▸ kk)
 refine yo.2 ⟨hx,h1,?_⟩;rw[Bool.eq_false_iff];intro h;obtain⟨j,hj,e2,hj2⟩:=oQ.1 h;have:=w5.1 al (mN.getD k default).toNat (by omega) (by rw[e];exact oP hk) (by rw[<-e2];exact oP hj);rw[h1,h] at this;cases this
theorem azc{n:Nat}{mN dV oR eE:List Int}{x:Int}(hx:x∈leftOf n mN dV oR eE){k:Nat}(hk:k<mN.length)(e:mN.getD k default=x):(k:Int)∈dV:=by
 obtain⟨h0,h1,_⟩:=yo.1 hx;refine Classical.byContradiction λhn=>?_
 rw[oQ.2 ⟨k,hk,by omega,hn⟩] at h1;cases h1
structure abi(a b:aF)(x:au)(L R:ah):Prop where
 xok:rE x
 l:vT a.left.graph x L
 r:vT b.left.graph x R
 ln:L.nodes.Nodup
 le:L.ag.Nodup
 rn:R.nodes.Nodup
 re:R.ag.Nodup
 jn:∀i:Nat,i<x.nodes.length->(i:Int)∈L.nodes\/(i:Int)∈R.nodes
 je:∀i:Nat,i<x.ag.length->(i:Int)∈L.ag\/(i:Int)∈R.ag
 an:oS x.nodes.length L.nodes a.keep.nodes R.nodes b.keep.nodes=true
 ae:oS x.ag.length L.ag a.keep.ag R.ag b.keep.ag=true
theorem abi.symm{a b:aF}{x:au}{L R:ah}(h:abi a b x L R):abi b a x R L:=⟨h.xok,h.r,h.l,h.rn,h.re,h.ln,h.le,λi hi=>(h.jn i hi).symm,λi hi=>(h.je i hi).symm,agf h.an,agf h.ae⟩
def aX(a b:aF)(x:au)(L R:ah):aO:=⟨leftOf x.nodes.length L.nodes a.keep.nodes R.nodes b.keep.nodes,leftOf x.ag.length L.ag a.keep.ag R.ag b.keep.ag⟩
theorem agj(a b:aF)(x:au)(L R:ah):aX a b x L R=aX b a x R L:=by unfold aX;rw[aed,aed x.ag.length]
section
variable{t:Types}{a b:aF}{x:au}{L R:ah}
theorem ah8(ha:rE a.left.graph)(pa:oE a.left.graph a.keep)(h:abi a b x L R){e:Int}(he:e∈(aX a b x L R).ag)(hl:e∈L.ag):(x.ag.getD e.toNat default).src∈(aX a b x L R).nodes/\(x.ag.getD e.toNat default).dst∈(aX a b x L R).nodes:=by obtain⟨k,hk,e1⟩:=aaX hl;have hkk:=azc he hk e1;have n1:=h.l.adJ;have n2:=h.l.ajF;obtain⟨_,h2⟩:=h.l.oK k (by omega);rw[e1] at h2;have hp:=pa.ends k hkk;rw[Int.toNat_natCast] at hp;have hr:=(ha.oK k (by omega)).2;rw[h2];exact⟨ajK h.ln h.l.qS h.an (by omega) (by rw[Int.toNat_of_nonneg hr.1.1];exact hp.1),ajK h.ln h.l.qS h.an (by omega) (by rw[Int.toNat_of_nonneg hr.2.1];exact hp.2)⟩
theorem aaJ(ha:rE a.left.graph)(hb:rE b.left.graph)(pa:oE a.left.graph a.keep)(pb:oE b.left.graph b.keep)(h:abi a b x L R):oE x (aX a b x L R):=by
 refine⟨agh ..,agh ..,λe he=>?_⟩;have hr:=(yo.1 he).1;rcases h.je e.toNat (by omega) with hl|hl
 ·exact ah8 ha pa h he (by rwa [Int.toNat_of_nonneg hr.1] at hl)
 ·rw[agj] at he ⊢;exact ah8 hb pb h.symm he (by rwa [Int.toNat_of_nonneg hr.1] at hl)
theorem apf(ha:dI t a.left.graph=true)(hb:dI t b.left.graph=true)(h:abi a b x L R):dI t x=true:=by
 rw[aaI] at ha hb ⊢;have side:∀ {a:aF} {L:ah},vT a.left.graph x L->(∀n∈a.left.graph.nodes,n<t.nodes.length)->∀i:Nat,(i:Int)∈L.nodes->x.nodes.getD i default<t.nodes.length:=λhm hn i hi=>by obtain⟨k,hk,e⟩:=aaX hi;have h1:=hm.adJ;have h2:=(hm.node k (by omega)).2;rw[e,Int.toNat_natCast] at h2;rw[h2];exact hn _ (oP (by omega))
 have aCz:∀ {a:aF} {L:ah},vT a.left.graph x L->(∀e∈a.left.graph.ag,e.type<t.ag.length)->∀i:Nat,(i:Int)∈L.ag->(x.ag.getD i default).type<t.ag.length:=λhm hn i hi=>by obtain⟨k,hk,e⟩:=aaX hi;have h1:=hm.ajF;have h2:=(hm.oK k (by omega)).2;have h3:=hn _ (oP (i:=k) (by omega));rw[e,Int.toNat_natCast] at h2;rw[h2];exact h3
 refine⟨λn hn=>?_,λe he=>?_⟩
 ·obtain⟨i,hi,rfl⟩:=aaX hn;rcases h.jn i hi with hl|hl
  ·exact side h.l ha.1 i hl
  ·exact side h.r hb.1 i hl
 ·obtain⟨i,hi,rfl⟩:=aaX he;rcases h.je i hi with hl|hl
  ·exact aCz h.l ha.2 i hl
  ·exact aCz h.r hb.2 i hl
end
def sX(l:List Int)(n:Int):Int:=af6 (λy=>decide (y=n)) l
theorem acM{l:List Int}{n:Int}(h:n∈l):(0<=sX l n/\(sX l n).toNat<l.length)/\l.getD (sX l n).toNat default=n:=by
 unfold sX af6;cases hf:l.findIdx? λy=>decide (y=n) with
 |none=>have:=List.findIdx?_eq_none_iff.1 hf n h;simp at this
 |some i=>obtain⟨hi,h1,_⟩:=List.findIdx?_eq_some_iff_getElem.1 hf;show (0<=((i:Nat):Int)/\((i:Nat):Int).toNat<l.length)/\l.getD ((i:Nat):Int).toNat default=n;rw[Int.toNat_natCast,bI hi,bY h1];exact⟨⟨by omega,hi⟩,rfl⟩
theorem amx{l:List Int}(h:l.Pairwise (· < ·)){n:Int}(hn:n∈l):sX l n=kZ l n:=by
 obtain⟨h1,h2⟩:=acM hn;obtain⟨hp,h3⟩:=wY h hn;have hnd:l.Nodup:=h.imp λh=>by omega
 have:=agi hnd h1.2 hp (by rw[h2,bI hp,h3]);omega
def aaY(into:List Int)(i:Nat):Nat:=((List.range i).filter λj:Nat=>!decide ((j:Int)∈into)).length
theorem azd{n:Nat}{into:List Int}{i:Nat}(hi:i<n)(hn:(i:Int) ∉ into):aaY into i<(mG n into).length/\(mG n into).getD (aaY into i) default=(i:Int):=by
 have e:List.range n=List.range i++i :: (List.range' (i+1) (n-i-1)):=by rw[List.range_eq_range',List.range_eq_range',show n=i+(1+(n-i-1)) by omega,<-List.range'_append_1,Nat.add_comm 1,List.range'_succ];simp
 have e2:mG n into=(((List.range i).filter λj:Nat=>!decide ((j:Int)∈into)).map λj:Nat=>(j:Int))++(i:Int) :: (((List.range' (i+1) (n-i-1)).filter λj:Nat=>!decide ((j:Int)∈into)).map λj:Nat=>(j:Int)):=by unfold mG;rw[e,List.filter_append,List.filter_cons,if_pos (by simp[hn]),List.map_append,List.map_cons]
 rw[e2];unfold aaY;refine⟨by simp,?_⟩;rw[wZ (by simp),List.length_map,Nat.sub_self];rfl
section
variable{t:Types}{g x:au}{r:aF}{m:ah}{K:aO}
def qT(g:au)(r:aF)(m:ah)(K:aO)(i:Nat):Int:=if (i:Int)∈r.into.nodes then sX K.nodes (m.nodes.getD (r.keep.nodes.getD (sX r.into.nodes i).toNat default).toNat default) else (g.nodes.length:Int)+(aaY r.into.nodes i:Nat)
def amy(g:au)(r:aF)(m:ah)(K:aO)(y:Int):Edge:=⟨(r.right.graph.ag.getD y.toNat default).type,qT g r m K (r.right.graph.ag.getD y.toNat default).src.toNat,qT g r m K (r.right.graph.ag.getD y.toNat default).dst.toNat⟩
def jm(g:au)(r:aF)(m:ah)(K:aO):au:=⟨g.nodes++(kj r).map λy=>r.right.graph.nodes.getD y.toNat default,g.ag++(lP r).map (amy g r m K)⟩
theorem pq:(jm g r m K).nodes.length=g.nodes.length+(kj r).length:=by simp[jm]
theorem w6:(jm g r m K).ag.length=g.ag.length+(lP r).length:=by simp[jm]
theorem yp{i:Nat}(hi:i<g.nodes.length):(jm g r m K).nodes.getD i default=g.nodes.getD i default:=acI hi
theorem ajL{i:Nat}(hi:i<g.ag.length):(jm g r m K).ag.getD i default=g.ag.getD i default:=acI hi
theorem ap0{i:Nat}(hi:i<(kj r).length):(jm g r m K).nodes.getD (g.nodes.length+i) default=r.right.graph.nodes.getD ((kj r).getD i default).toNat default:=by show (g.nodes++(kj r).map _).getD _ default=_;rw[wZ (by omega),Nat.add_sub_cancel_left,abP _ hi]
theorem aze{i:Nat}(hi:i<(lP r).length):(jm g r m K).ag.getD (g.ag.length+i) default=amy g r m K ((lP r).getD i default):=by show (g.ag++(lP r).map _).getD _ default=_;rw[wZ (by omega),Nat.add_sub_cancel_left,abP _ hi]
def yq(g x:au)(K:aO):Prop:=K.nodes.length<=g.nodes.length/\∀j,j<K.nodes.length->g.nodes.getD j default=x.nodes.getD (K.nodes.getD j default).toNat default
theorem yq.add(h:yq g x K):yq (jm g r m K) x K:=⟨by rw[pq];have:=h.1;omega,λj hj=>by rw[yp (by have:=h.1;omega)];exact h.2 j hj⟩
theorem as5:yq (dW x K) x K:=⟨by simp[dW],λj hj=>by
 show (K.nodes.map _).getD j default=_;rw[abP _ hj]⟩
structure apg(r:aF)(x:au)(m:ah)(K:aO):Prop where
 mor:vT (dW r.left.graph r.keep) r.right.graph r.into
 rok:rE r.right.graph
 lft:vT r.left.graph x m
 part:oE r.left.graph r.keep
 kin:∀k,k<m.nodes.length->(k:Int)∈r.keep.nodes->m.nodes.getD k default∈K.nodes
theorem we(hs:apg r x m K)(hg:yq g x K){i:Nat}(hi:i<r.right.graph.nodes.length):(0<=qT g r m K i/\qT g r m K i<(jm g r m K).nodes.length)/\(jm g r m K).nodes.getD (qT g r m K i).toNat default=r.right.graph.nodes.getD i default:=by
 unfold qT;by_cases h:(i:Int)∈r.into.nodes
 ·rw[if_pos h];obtain⟨h1,h2⟩:=acM h;have n1:r.into.nodes.length=r.keep.nodes.length:=by have:=hs.mor.adJ;simpa[dW] using this
  have hk:=hs.part.nodes.range _ (oP (l:=r.keep.nodes) (i:=(sX r.into.nodes i).toNat) (by omega));have n2:=hs.lft.adJ;have hm:=hs.kin (r.keep.nodes.getD (sX r.into.nodes i).toNat default).toNat (by omega) (by rw[Int.toNat_of_nonneg hk.1];exact oP (by omega));obtain⟨h3,h4⟩:=acM hm;have hx:=hg.1;refine⟨⟨h3.1,by rw[pq];omega⟩,?_⟩;rw[yp (by omega),hg.2 _ h3.2,h4,(hs.lft.node _ (by omega)).2];have:=(hs.mor.node (sX r.into.nodes i).toNat (by simp[dW];omega)).2;rw[h2,Int.toNat_natCast] at this;rw[this];show _=(r.keep.nodes.map _).getD _ default;rw[abP _ (by omega)]
 ·rw[if_neg h];obtain⟨h1,h2⟩:=azd hi h;refine⟨⟨by omega,by rw[pq];unfold kj;omega⟩,?_⟩;rw[show ((g.nodes.length:Int)+(aaY r.into.nodes i:Nat)).toNat=g.nodes.length+aaY r.into.nodes i by omega,ap0 (by unfold kj;exact h1)];unfold kj;rw[h2,Int.toNat_natCast]
theorem ajM{y:Int}(h:y∈kj r):0<=y/\y<r.right.graph.nodes.length:=qb _ h
theorem agk{y:Int}(h:y∈lP r):0<=y/\y<r.right.graph.ag.length:=qb _ h
theorem ah9(ho:rE g)(hs:apg r x m K)(hg:yq g x K)(h1:(jm g r m K).nodes.length<=40)(h2:(jm g r m K).ag.length<=80):cL (jm g r m K)=0:=by
 refine aal h1 h2 (λk hk=>?_) (λe he=>?_)
 ·rcases List.mem_append.1 hk with hk|hk
  ·exact ho.amp hk
  ·obtain⟨y,hy,rfl⟩:=List.mem_map.1 hk;have:=ajM hy;exact hs.rok.kind _ (by omega)
 ·rcases List.mem_append.1 he with he|he
  ·have:=ho.ah3 he;have e1:(g.nodes++(kj r).map λy=>r.right.graph.nodes.getD y.toNat default).length=g.nodes.length+(kj r).length:=by simp
   rw[e1];omega
  ·obtain⟨y,hy,rfl⟩:=List.mem_map.1 he;have hr:=agk hy;have:=hs.rok.oK y.toNat (by omega);have p1:=(we hs hg (i:=(r.right.graph.ag.getD y.toNat default).src.toNat) (by omega)).1;have p2:=(we hs hg (i:=(r.right.graph.ag.getD y.toNat default).dst.toNat) (by omega)).1;exact⟨this.1,p1,p2⟩
theorem aia(ho:dI t g=true)(hr:dI t r.right.graph=true):dI t (jm g r m K)=true:=by
 rw[aaI] at ho hr ⊢;refine⟨λn hn=>?_,λe he=>?_⟩
 ·rcases List.mem_append.1 hn with hn|hn
  ·exact ho.1 n hn
  ·obtain⟨y,hy,rfl⟩:=List.mem_map.1 hn;have:=ajM hy;exact hr.1 _ (oP (by omega))
 ·rcases List.mem_append.1 he with he|he
  ·exact ho.2 e he
  ·obtain⟨y,hy,rfl⟩:=List.mem_map.1 he;have:=agk hy;have h3:=hr.2 _ (oP (i:=y.toNat) (by omega));exact h3
theorem as6(hx:dI t x=true)(hp:oE x K):dI t (dW x K)=true:=by
 rw[aaI] at hx ⊢;refine⟨λn hn=>?_,λe he=>?_⟩
 ·obtain⟨y,hy,rfl⟩:=List.mem_map.1 hn;have:=hp.nodes.range y hy;exact hx.1 _ (oP (by omega))
 ·obtain⟨y,hy,rfl⟩:=List.mem_map.1 he;have:=hp.ag.range y hy;have h3:=hx.2 _ (oP (i:=y.toNat) (by omega));exact h3
def agl(t:Types)(g:au)(i:Nat):Prop:=(t.nodes.getD (g.nodes.getD i default).toNat default).abs=false
def agm(t:Types)(g:au)(i:Nat):Prop:=n7 t (g.ag.getD i default).type (g.nodes.getD (g.ag.getD i default).src.toNat default) (g.nodes.getD (g.ag.getD i default).dst.toNat default)=true
theorem amz(hm:sH t r.right.graph (kj r) (lP r)=true)(hs:apg r x m K)(hg:yq g x K):(∀i,i<(kj r).length->agl t (jm g r m K) (g.nodes.length+i))/\∀i,i<(lP r).length->agm t (jm g r m K) (g.ag.length+i):=by
 rw[age] at hm;refine⟨λi hi=>?_,λi hi=>?_⟩
 ·unfold agl;rw[ap0 hi];exact hm.1 _ (oP hi)
 ·unfold agm;rw[aze hi];have hy:=oP hi;have hr:=agk hy;have he:=hs.rok.oK ((lP r).getD i default).toNat (by omega);unfold amy;dsimp only;rw[(we hs hg (i:=(r.right.graph.ag.getD ((lP r).getD i default).toNat default).src.toNat) (by omega)).2,(we hs hg (i:=(r.right.graph.ag.getD ((lP r).getD i default).toNat default).dst.toNat) (by omega)).2];exact hm.2 _ hy
theorem aw5(ho:rE g){i:Nat}(hi:i<g.ag.length)(h:agm t g i):agm t (jm g r m K) i:=by have:=(ho.oK i hi).2;unfold agm at *;rw[ajL hi,yp (by omega),yp (by omega)];exact h
theorem as7{i:Nat}(hi:i<g.nodes.length)(h:agl t g i):agl t (jm g r m K) i:=by unfold agl at *;rw[yp hi];exact h
end
def lR(n:Nat):List Int:=(List.range n).map λi:Nat=>(i:Int)
theorem aib{n:Nat}{x:Int} : x∈lR n↔0<=x/\x<n:=by
 unfold lR;rw[List.mem_map];constructor
 ·rintro⟨i,hi,rfl⟩;have:=List.mem_range.1 hi;omega
 ·rintro⟨h1,h2⟩;exact⟨x.toNat,List.mem_range.2 (by omega),by omega⟩
theorem acN{n i:Nat}(h:i<n):(lR n).getD i default=(i:Int):=by unfold lR;rw[abP _ (by simpa using h),bI (by simpa using h)];simp
theorem aaK(n:Nat):(lR n).length=n:=by simp[lR]
theorem aee(n:Nat):(lR n).Nodup:=List.pairwise_map.2 (List.nodup_range.imp λh e=>h (by omega))
section
variable{t:Types}{a b:aF}{x:au}{L R:ah}
def qc(a b:aF)(x:au)(L R:ah):au:=jm (jm (dW x (aX a b x L R)) a L (aX a b x L R)) b R (aX a b x L R)
def aef(a b:aF)(x:au)(L R:ah):aF:=⟨a.name,⟨x,[],0,[]⟩,⟨qc a b x L R,[],0,[]⟩,aX a b x L R,⟨lR (aX a b x L R).nodes.length,lR (aX a b x L R).ag.length⟩,a.injective&&b.injective,aao⟩
theorem ajN(ha:mH t a)(h:abi a b x L R):apg a x L (aX a b x L R):=⟨ha.mor,ha.rok,h.l,ha.part,λk hk kk=>ajK h.ln h.l.qS h.an hk kk⟩
theorem aph(hb:mH t b)(h:abi a b x L R):apg b x R (aX a b x L R):=by rw[agj];exact ajN hb h.symm
theorem aic(ha:mH t a)(hb:mH t b)(h:abi a b x L R)(h1:(qc a b x L R).nodes.length<=40)(h2:(qc a b x L R).ag.length<=80):mH t (aef a b x L R):=by
 have hp:=aaJ ha.ym hb.ym ha.part hb.part h;have ht:=apf ha.aga hb.aga h;have sa:=ajN ha h;have sb:=aph hb h;have o0:=aeI h.xok hp;have k0:yq (dW x (aX a b x L R)) x (aX a b x L R):=as5;have k1:yq (jm (dW x (aX a b x L R)) a L (aX a b x L R)) x (aX a b x L R):=k0.add;have l1:(jm (dW x (aX a b x L R)) a L (aX a b x L R)).nodes.length<=40:=by have:=h1;unfold qc at this;rw[pq] at this;omega
 have l2:(jm (dW x (aX a b x L R)) a L (aX a b x L R)).ag.length<=80:=by have:=h2;unfold qc at this;rw[w6] at this;omega
 have v1:=ah9 o0 sa k0 l1 l2;have o1:=okG v1;have v2:cL (qc a b x L R)=0:=ah9 o1 sb k1 h1 h2;have t0:=as6 ht hp;have t2:dI t (qc a b x L R)=true:=aia (aia t0 ha.agb) hb.agb;have fa:=amz (t:=t) ha.make sa k0;have fb:=amz (t:=t) hb.make sb k1;have en:(dW x (aX a b x L R)).nodes.length=(aX a b x L R).nodes.length:=by simp[dW]
 have ee:(dW x (aX a b x L R)).ag.length=(aX a b x L R).ag.length:=by simp[dW]
 have nl:=pq (g:=dW x (aX a b x L R)) (r:=a) (m:=L) (K:=aX a b x L R);have el:=w6 (g:=dW x (aX a b x L R)) (r:=a) (m:=L) (K:=aX a b x L R);have nl2:=pq (g:=jm (dW x (aX a b x L R)) a L (aX a b x L R)) (r:=b) (m:=R) (K:=aX a b x L R);have el2:=w6 (g:=jm (dW x (aX a b x L R)) a L (aX a b x L R)) (r:=b) (m:=R) (K:=aX a b x L R);have hxv:cL x=0:=aal h.xok.nodes h.xok.ag (λk hk=>h.xok.amp hk) (λe he=>h.xok.ah3 he);refine⟨ha.types,ha.name,ah7 ha.types hxv ht,aec rfl rfl v2 t2,hp,?_,aee _,aee _,?_⟩
 ·show vT (dW x (aX a b x L R)) (qc a b x L R) ⟨lR (aX a b x L R).nodes.length,lR (aX a b x L R).ag.length⟩;refine⟨by simp[aaK,dW],by simp[aaK,dW],λi hi=>?_,λi hi=>?_⟩
  ·dsimp only;rw[acN (by omega),Int.toNat_natCast];refine⟨by unfold qc;omega,?_⟩;unfold qc;rw[yp (by omega),yp hi]
  ·dsimp only;have:=o0.oK i hi;rw[acN (by omega),Int.toNat_natCast,acN (by omega),acN (by omega)];refine⟨by unfold qc;omega,?_⟩;unfold qc;rw[ajL (by omega),ajL hi,Int.toNat_of_nonneg this.2.1.1,Int.toNat_of_nonneg this.2.2.1]
 ·show sH t (qc a b x L R) (mG (qc a b x L R).nodes.length (lR (aX a b x L R).nodes.length)) (mG (qc a b x L R).ag.length (lR (aX a b x L R).ag.length))=true;rw[age];refine⟨λy hy=>?_,λy hy=>?_⟩
  ·obtain⟨hr,hn⟩:=nV.1 hy;have hc:(aX a b x L R).nodes.length<=y.toNat:=by
    rcases Nat.lt_or_ge y.toNat (aX a b x L R).nodes.length with h3|h3
    ·exact absurd (aib.2 ⟨hr.1,by omega⟩) hn
    ·exact h3
   unfold qc at hr;rcases Nat.lt_or_ge y.toNat (jm (dW x (aX a b x L R)) a L (aX a b x L R)).nodes.length with h3|h3
   ·have:=as7 (t:=t) (r:=b) (m:=R) (K:=aX a b x L R) h3 (by have:=fa.1 (y.toNat-(dW x (aX a b x L R)).nodes.length) (by omega);rwa [show (dW x (aX a b x L R)).nodes.length+(y.toNat-(dW x (aX a b x L R)).nodes.length)=y.toNat by omega] at this);exact this
   ·have:=fb.1 (y.toNat-(jm (dW x (aX a b x L R)) a L (aX a b x L R)).nodes.length) (by omega);rw[show (jm (dW x (aX a b x L R)) a L (aX a b x L R)).nodes.length+(y.toNat-(jm (dW x (aX a b x L R)) a L (aX a b x L R)).nodes.length)=y.toNat by omega] at this;exact this
  ·obtain⟨hr,hn⟩:=nV.1 hy;have hc:(aX a b x L R).ag.length<=y.toNat:=by
    rcases Nat.lt_or_ge y.toNat (aX a b x L R).ag.length with h3|h3
    ·exact absurd (aib.2 ⟨hr.1,by omega⟩) hn
    ·exact h3
   unfold qc at hr;rcases Nat.lt_or_ge y.toNat (jm (dW x (aX a b x L R)) a L (aX a b x L R)).ag.length with h3|h3
   ·have:=aw5 (t:=t) (r:=b) (m:=R) (K:=aX a b x L R) o1 h3 (by have:=fa.2 (y.toNat-(dW x (aX a b x L R)).ag.length) (by omega);rwa [show (dW x (aX a b x L R)).ag.length+(y.toNat-(dW x (aX a b x L R)).ag.length)=y.toNat by omega] at this);exact this
   ·have:=fb.2 (y.toNat-(jm (dW x (aX a b x L R)) a L (aX a b x L R)).ag.length) (by omega);rw[show (jm (dW x (aX a b x L R)) a L (aX a b x L R)).ag.length+(y.toNat-(jm (dW x (aX a b x L R)) a L (aX a b x L R)).ag.length)=y.toNat by omega] at this;exact this
end
structure aGz(t:Types)(rules:List aF):Prop where
 types:jB t
 len:rules.length<=1000
 each:∀r∈rules,oN r
structure aDX(t:Types)(rules:List aF):Prop where
 types:yQ t
 valid:(cZ t).2=0
 six:rules.length<=6
 each:∀r∈rules,oa t r=0
end Go.Proofs.YtldllhbhnpjlcaaGreat
