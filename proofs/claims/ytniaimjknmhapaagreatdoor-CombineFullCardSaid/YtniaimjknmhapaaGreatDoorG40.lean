/- My texts FullP. -/
import Derived.Test.YtniaimjknmhapaaGreatDoorG39
set_option linter.unusedVariables false
set_option linter.unusedSimpArgs false
set_option maxRecDepth 100000
set_option maxHeartbeats 16000000
namespace Go.Proofs.YtniaimjknmhapaaGreatDoor
theorem Ch.found_mem (l:List Acc) (x:Int):Ch.found l x=Acc.zero∨Ch.found l x∈l:=by
 unfold Ch.found Ch.find
 cases h:l.find? (fun b=>b.code==x) with
 | none=>exact .inl rfl
 | some a=>exact .inr (List.mem_of_find?_eq_some h)
theorem Gr.kind_le {g:Grp} (h:Gr.valid g=true) (a:Int):Gr.kind g a<=5:=by
 unfold Gr.valid Gr.books Gr.accounts at h;simp only [Bool.and_eq_true] at h;have hc:Ch.valid true g.chart=true:=by simp_all
 unfold Gr.kind
 rcases Ch.found_mem g.chart a with h0 | h0
 ·rw [h0];decide
 ·obtain⟨i,hi,e⟩:=List.getElem_of_mem h0
  rw [<- e];unfold Ch.valid Ch.okAt Ch.basic at hc;simp only [Bool.and_eq_true,List.all_eq_true,List.mem_range] at hc;have h1:=(hc.2 i hi).1.1;rw [Ch.at_lt hi] at h1;simp only [decide_eq_true_eq] at h1;omega
theorem Cb.acq_law {g:Grp} (h:Gr.valid g=true) (since:Int) (y:Itm):∃ za,Cb.acq g since y={ y with acct:=za }/\(za=y.acct∨za=g.r7)/\(za=g.r7∨¬ (y.date<=since)∨Gr.kind g za<3):=by
 unfold Cb.acq
 split
 ·exact⟨g.r7,rfl,.inr rfl,.inl rfl⟩
 ·rename_i hn
  refine⟨y.acct,rfl,.inl rfl,.inr ?_⟩
  by_cases hd:y.date<=since
  ·right
   have h5:=Gr.kind_le h y.acct;have h3:¬ (Gr.isEquity g y.acct=true∨Gr.isResult g y.acct=true):=fun q=>hn ⟨hd,q⟩;unfold Gr.isEquity Gr.isResult at h3;simp only [Bool.or_eq_true,decide_eq_true_eq] at h3;omega
  ·exact .inl hd
end Go.Proofs.YtniaimjknmhapaaGreatDoor
