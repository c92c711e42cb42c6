/- My texts KindW. -/
import Derived.Test.YtniaimjknmhapaaGreatDoorG21
set_option linter.unusedVariables false
set_option linter.unusedSimpArgs false
set_option maxRecDepth 100000
set_option maxHeartbeats 16000000
namespace Go.Proofs.YtniaimjknmhapaaGreatDoor
open Go.Proofs.Tryz Go.RowKit
section
variable (w:World)
theorem a5F (g:Grp) (x:Int) (hg:g.At w w) :
  CL 13 #[g,x] w (Gr.kind g x):=by
 obtain⟨W1,hW1,hB0,hb0,hz⟩:=nw1 w g 29;have HW:=Z1 hW1;have hA1:=RowsAt.at_ hg.hc hB0;have x4:=cr9 4 hb0;simp at x4;have s1:w.heap.size<W1.heap.size:=oM;have Hcl:=Z1 hg.hcl;have hcn:=hg.hcn;clear hW1 hz hb0 hg;go_enter func13,ntmps13;go_upto_region 1 with(fail);rw [<- HW.out];go_wp2_with (fail);refine(a9L W1 g.cA g.cn g.cc g.chart x Hcl.out hcn hA1).mono ?_;rintro e W2 ⟨rfl,hB2⟩;have hB02:=hB0.trans (hB2.mono hB0.size);clear x4 hA1;go_wp2;go_ret;exact⟨rfl,hB02.alloc hB02.size _⟩
theorem a7O (g:Grp) (x:Int) (hg:g.At w w) :
  CL 16 #[g,x] w (Gr.isResult g x):=by
 obtain⟨W1,hW1,hB0,hb0,hz⟩:=nw1 w g 29;have HW:=Z1 hW1;have hg1:=hg.at_ hB0;have hrg:=Z1 (a3F hb0);have s1:w.heap.size<W1.heap.size:=oM;clear hW1 hz hb0 hg;go_enter func16,ntmps16;go_upto_region 1 with(fail);rw [<- HW.out];go_wp2_with (refine wpList_load_mid rfl 29 (.tmp 2) rfl w.heap.size 0 rfl _ _ hrg.out underlying29 rfl VJ ?_);refine(a5F W1 g x hg1).mono ?_;rintro e W2 ⟨rfl,hB2⟩;have hB02:=hB0.trans (hB2.mono hB0.size);obtain⟨q,hq⟩:∃ q,q=Gr.kind g x:=⟨_,rfl⟩;rw [<- hq];have Hq:=Z1 hq;clear hrg hg1 hq
 by_cases h4:q=4
 ·have h4b:(q==4)=true:=by simp [h4]
  have HV:Hid (Gr.isResult g x=true):=by show _=_;rw [Gr.isResult,<- Hq.out,decide_eq_true h4];rfl
  clear h4;go_wp2;go_ret;exact⟨by rw [HV.out];rfl,hB02⟩
 have h4b:(q==4)=false:=by simp [h4]
 by_cases h5:q=5
 ·have h5b:(q==5)=true:=by simp [h5]
  have HV:Hid (Gr.isResult g x=true):=by show _=_;rw [Gr.isResult,<- Hq.out,decide_eq_true h5];simp
  clear h4 h5;go_wp2;go_ret;exact⟨by rw [HV.out];rfl,hB02⟩
 have h5b:(q==5)=false:=by simp [h5]
 have HV:Hid (Gr.isResult g x=false):=by show _=_;rw [Gr.isResult,<- Hq.out,decide_eq_false h4,decide_eq_false h5];rfl
 clear h4 h5;go_wp2;go_ret;exact⟨by rw [HV.out];rfl,hB02⟩
end
end Go.Proofs.YtniaimjknmhapaaGreatDoor
