/- The wD Insert and Delete at this y8 types. No condition but bH bq stand in each. -/
import Derived.Test.YtjdopimopgpagaaGreatT
namespace Go.Proofs.YtjdopimopgpagaaGreat
set_option linter.all false
open Go Go.Proofs.Tryz Go.Lib Go.RowKit Go.Shelf
set_option maxRecDepth 100000
set_option maxHeartbeats 4000000
theorem apO:afI prog 107 75 3:=by
 intro b n c i j arr cs w hij hj hnc hcm hb has hcs h1c
 have mixed:=aaS
 obtain⟨i0,hi0,hz0,hzs,hzb⟩:=info_parts (by kernel_rfl:(prog.info? 75).map (λi=>(i.zero,i.size,i.bytes))=some (some (.agg #[.int .i64 0,.int .i64 0,.slice none 0 0]),3,40))
 have abe:n*3≤arr.size:=by rw[has];exact Nat.mul_le_mul_right _ hnc
 have agI:cs.length=n*3:=by rw[←hcs,List.length_take];simp;omega
 have hjn:j*3≤n*3:=Nat.mul_le_mul_right _ hj
 have hin:i*3+3≤j*3:=by rw[←Nat.succ_mul];exact Nat.mul_le_mul_right _ hij
 have hnl:(cs.drop (j*3)).length=(n-j)*3:=by rw[List.length_drop,agI,Nat.sub_mul]
 obtain⟨A,hA,hsrc⟩:∃A:Addr,(if c=j then some (⟨b,0,none⟩:Addr)else some ⟨b,j*3,none⟩)=some A∧(∀t u,(cs.drop (j*3))[t]?=some u→w.drew.cell? (A.add t)=some u):=by
  by_cases h:c=j
  ·refine⟨⟨b,0,none⟩,by simp[h],λt u hu=>?_⟩
   rw[List.drop_eq_nil_of_le (by rw[agI];exact Nat.mul_le_mul_right _ (by omega))]at hu
   simp at hu
  ·refine⟨⟨b,j*3,none⟩,by simp[h],λt u hu=>?_⟩
   rw[List.getElem?_drop]at hu
   have hlt:j*3+t<cs.length:=(List.getElem?_eq_some_iff.1 hu).1
   have hu2:arr[j*3+t]?=some u:=by rw[←hu,←hcs,List.getElem?_take,if_pos (by omega),Array.getElem?_toList]
   rw[Addr.add_lit]
   show w.cell? _=_
   simp only[World.cell?,hb,hu2]
   rfl
 obtain⟨A1,hA1⟩:∃A1:Array Value,A1=(arr.toList.take (0+i*3)++cs.drop (j*3)++arr.toList.drop (0+i*3+(cs.drop (j*3)).length)).toArray:=⟨_,rfl⟩
 have abf:A1.size=arr.size:=by rw[hA1];simp;omega
 have hap:∀ty,(Builtin.append_ #[25,25] ty #[.slice (some ⟨b,0,none⟩) i c,.slice (some A) (n-j) (c-j)]).run prog w.drew=.ok (.slice (some ⟨b,0,none⟩) (i+(n-j)) c) (w.drew.setRow b A1):=λty=>by
  have:=pK w.drew 25 ty 75 i0 underlying25 hi0 b 0 i c arr hb A (n-j) (c-j) (cs.drop (j*3)) (by rw[hzs,hnl]) hsrc (λv hv=>h1c v (List.mem_of_mem_drop hv)) (by omega) (by rw[hzs,hnl,Nat.sub_mul];omega)
  rw[hzs,←hA1]at this
  exact this
 obtain⟨Z0,hZ0⟩:∃Z0:List Value,Z0=(Builtin.zeroCells (.agg #[.int .i64 0,.int .i64 0,.slice none 0 0]:Value).cells (n-(i+(n-j)))).toList:=⟨_,rfl⟩
 have hZl:Z0.length=(j-i)*3:=by
  rw[hZ0,Array.length_toList,qq]
  show(n-(i+(n-j)))*3=(j-i)*3
  congr 1;omega
 obtain⟨A2,hA2⟩:∃A2:Array Value,A2=(A1.toList.take ((i+(n-j))*3)++Z0++A1.toList.drop ((i+(n-j))*3+Z0.length)).toArray:=⟨_,rfl⟩
 have hfit:(i+(n-j))*3+(j-i)*3=n*3:=by rw[←Nat.add_mul];congr 1;omega
 have hcl:∀ty,(Builtin.clear_ #[25] ty #[.slice (some ⟨b,(i+(n-j))*3,none⟩) (n-(i+(n-j))) (c-(i+(n-j)))]).run prog (w.drew.setRow b A1)=.ok (.tuple #[]) ((w.drew.setRow b A1).setRow b A2):=λty=>by
  have:=xb (P:=prog) (w.drew.setRow b A1) 25 75 ty (.agg #[.int .i64 0,.int .i64 0,.slice none 0 0]) underlying25 zeroValue75 b ((i+(n-j))*3) (n-(i+(n-j))) (c-(i+(n-j))) A1 75 (setRow_heap w.drew b arr A1 75 (0,0) hb) (by omega) (by rw[←hZ0,hZl,abf];omega) (yQ (by decide) _)
  rw[←hZ0,←hA2]at this
  exact this
 have nV:lC w b (i+(n-j)) 75 3 (cs.take (i*3)++cs.drop (j*3)) (.returned (.slice (some ⟨b,0,none⟩) (i+(n-j)) c)) ((w.drew.setRow b A1).setRow b A2):=by
  refine⟨b,c,A2,rfl,by omega,hcm,setRow_heap _ b A1 A2 75 (0,0) (setRow_heap w.drew b arr A1 75 (0,0) hb),?_,?_,.inl rfl,λk hk hl=>?_,?_,rfl,rfl,rfl,Nat.le_succ _⟩
  ·rw[hA2,←has,←abf];simp;omega
  ·have hil:(cs.take (i*3)++cs.drop (j*3)).length=(i+(n-j))*3:=by rw[List.length_append,hnl,List.length_take,agI,Nat.min_eq_left (by omega),Nat.add_mul]
   have e1:A1.toList.take ((i+(n-j))*3)=cs.take (i*3)++cs.drop (j*3):=by
    rw[hA1,Nat.zero_add]
    have e2:arr.toList.take (i*3)=cs.take (i*3):=by rw[←hcs,List.take_take];congr 1;omega
    show List.take _ (arr.toList.take (i*3)++cs.drop (j*3)++_)=_
    rw[e2,List.take_left' hil]
   rw[hA2]
   show List.take _ (A1.toList.take ((i+(n-j))*3)++Z0++_)=_
   rw[e1,List.append_assoc,List.take_left' hil]
  ·rw[setRow_other _ b k A2 hk,setRow_other _ b k A1 hk];rfl
  ·simp only[World.setRow,Array.size_modify];exact Nat.le_refl _
 obtain⟨CS,hCS⟩:∃CS,CS=cs.take (i*3)++cs.drop (j*3):=⟨_,rfl⟩
 rw[←hCS]at nV ⊢
 have hij2:¬((i:Int)=(j:Int)):=by omega
 have hic:i≤c:=by omega
 have hjc:j≤c:=by omega
 have hci:¬(c=i+(n-j)):=by omega
 have hc63:c≤9223372036854775807:=by unfold maxLen at hcm;omega
 clear hA1 abf hA2 hZ0 hZl hCS hsrc hnl agI abe hfit
 go_enter func107,Tryz.ntmps107
 go_wp2_with fail
 go_region_law_o (refine aa1 rfl (.tmp 22) (.tmp 25) 25 25 rfl (.slice (some ⟨b,0,none⟩) i c) (.slice (some A) (n-j) (c-j)) (by simp[Act.eval,Act.put]) (by simp[Act.eval,Act.put,hA]) (hap _) ?_)
 go_wp2
 go_ret
 exact nV
theorem adg{d D:Nat}{l m:List aR}{i j:Int}(h:x2 l i j=some m)(hD:D∉[d]):bM prog 107 [(d,.slice 75 3 (ml aJ l) 0 false)] [.own d,.int .i64 i,.int .i64 j] (λa σ'=>a=.own D∧σ'=[(D,.slice 75 3 (ml aJ m) 0 false)]):=by
 obtain⟨h1,rfl⟩:=ahr h
 have q:=agz apO (d:=d) (D:=D) (i:=i) (j:=j) (xs:=ml aJ l) (zV aJ l) (aed aJ l) (by rw[gQ];exact h1) hD
 have e:ml aJ (l.take i.toNat++l.drop j.toNat)=(ml aJ l).take i.toNat++(ml aJ l).drop j.toNat:=by simp[ml,List.map_take,List.map_drop]
 rw[e];exact q
theorem aex(b n c i vb vc:Nat)(arr fh:Array Value)(tv:TypeId)(cs row:List Value)(w:World)(hi:i<n)(hroom:n+1≤c)(hc63:c≤maxLen)(hvb:vb≠b)
  (hb:w.heap[b]?=some (.cells arr 66 (0,0))) (has:arr.size=c*5) (hcs:arr.toList.take (n*5)=cs) (hv:w.heap[vb]?=some (.cells fh tv (0,0))) (hrow:fh.toList.take 5=row) (hrl:row.length=5)
  (h1c:∀v∈cs,v.oneCell'=true) (h1v:∀v∈row,v.oneCell'=true) :
  Calls prog 176 #[.slice (some ⟨b,0,none⟩) n c,.int .i64 i,.slice (some ⟨vb,0,none⟩) 1 vc] w (lC w b (n+1) 66 5 (cs.take (i*5)++row++cs.drop (i*5))):=by
 obtain⟨CS,hCS⟩:∃CS,CS=cs.take (i*5)++row++cs.drop (i*5):=⟨_,rfl⟩
 rw[←hCS]
 have mixed:=aaS
 have hz1:¬((1:Int)=0):=by omega
 have hz2:¬((i:Int)=(n:Int)):=by omega
 have abe:n*5+5≤arr.size:=by rw[has,←Nat.succ_mul];exact Nat.mul_le_mul_right _ hroom
 have hcl:cs.length=n*5:=by rw[←hcs,List.length_take];simp;omega
 have hvl:5≤fh.size:=by
  have:row.length=min 5 fh.size:=by rw[←hrow,List.length_take];simp
  omega
 have hcell:∀j,j<n*5→w.cell? ⟨b,j,none⟩=cs[j]?:=λj hj=>by
  simp only[World.cell?,hb]
  rw[←hcs,List.getElem?_take,if_pos hj,Array.getElem?_toList]
  rfl
 have sU:∀(W:World),W.heap[vb]?=some (.cells fh tv (0,0))→∀j v,row[j]?=some v→W.cell? ⟨vb,j,none⟩=some v:=λW hW j v hj=>by
  have hj2:j<row.length:=(List.getElem?_eq_some_iff.1 hj).1
  have:fh[j]?=some v:=by rw[←hj,←hrow,List.getElem?_take,if_pos (by omega),Array.getElem?_toList]
  simp only[World.cell?,hW,this]
  rfl
 have hin:i*5+5≤n*5:=by rw[←Nat.succ_mul];exact Nat.mul_le_mul_right _ hi
 have hdl:(cs.drop (i*5)).length=(n-i)*5:=by rw[List.length_drop,hcl,Nat.sub_mul]
 obtain⟨A1,hA1⟩:∃A1:Array Value,A1=(arr.toList.take (i*5+5)++cs.drop (i*5)++arr.toList.drop (i*5+5+(cs.drop (i*5)).length)).toArray:=⟨_,rfl⟩
 have abf:A1.size=arr.size:=by rw[hA1];simp;omega
 obtain⟨A2,hA2⟩:∃A2:Array Value,A2=(A1.toList.take (i*5)++row++A1.toList.drop (i*5+row.length)).toArray:=⟨_,rfl⟩
 have hcp1:∀ty dc sc,(Builtin.copy_ #[49,49] ty #[.slice (some ⟨b,(i+1)*5,none⟩) (n-i) dc,.slice (some ⟨b,i*5,none⟩) (n+1-i) sc]).run prog w.drew=.ok (goInt (n-i:Nat)) (w.drew.setRow b A1):=λty dc sc=>by
  rw[hA1,Nat.succ_mul]
  exact rD w.drew 49 49 ty 66 b (i*5+5) (n-i) dc ⟨b,i*5,none⟩ (n+1-i) sc 5 (n-i) arr 66 (cs.drop (i*5)) underlying49 sizeOf66 hb (by simp only[Nat.min_def];split<;>omega) hdl
   (λj v hj=>by
    have hj2:j<(cs.drop (i*5)).length:=(List.getElem?_eq_some_iff.1 hj).1
    rw[Addr.add_lit]
    show w.cell? _=_
    rw[hcell (i*5+j) (by rw[List.length_drop,hcl]at hj2;omega),←hj,List.getElem?_drop])
   (by rw[hdl,Nat.sub_mul];omega) (λv hv=>h1c v (List.mem_of_mem_drop hv))
 have hbl:b<w.heap.size:=cG hb
 have hcp2:∀(W:World),W.heap=(w.drew.setRow b A1).heap→∀ty dc,(Builtin.copy_ #[49,49] ty #[.slice (some ⟨b,i*5,none⟩) (n+1-i) dc,.slice (some ⟨vb,0,none⟩) 1 vc]).run prog W=.ok (goInt (1:Nat)) (W.setRow b A2):=λW hW ty dc=>by
  rw[hA2]
  exact rD W 49 49 ty 66 b (i*5) (n+1-i) dc ⟨vb,0,none⟩ 1 vc 5 1 A1 66 row underlying49 sizeOf66 (by rw[hW];exact setRow_heap w.drew b arr A1 66 (0,0) hb) (by simp only[Nat.min_def];split<;>omega) (by omega)
   (λj v hj=>by rw[Addr.add_lit,Nat.zero_add];exact sU W (by rw[hW,setRow_other w.drew b vb A1 hvb];exact hv) j v hj)
   (by rw[abf];omega) h1v
 have hov:∀lb cb,(callFunc 190 #[.slice (some ⟨vb,0,none⟩) 1 vc,.slice (some ⟨b,(i+1)*5,none⟩) lb cb]).run prog w=.ok (.value (.bool false)) w:=λlb cb=>by
  rw[run_callFunc_extern func190 (by kernel_rfl) (by kernel_rfl) (by kernel_rfl) (e:=Extern.SlicesOverlaps.overlaps #[49,49] #[4]) (by kernel_rfl),
   Lib.run_overlaps_apart w 49 4 66 underlying49 5 sizeOf66 ⟨vb,0,none⟩ ⟨b,(i+1)*5,none⟩ 1 vc lb cb hvb tv 66 fh.size arr.size (by simp[World.shape?,hv]) (by simp[World.shape?,hb]) (by omega) (by simp[World.frozen?,hv]) (by simp[World.frozen?,hv])]
  rfl
 have hw1:IntKind.i64.wrap ((i:Int)+(1:Int))=(i:Int)+(1:Int):=by rw[IntKind.wrap_i64];unfold maxLen at hc63;omega
 have hb1:(0:Int)≤(i:Int)+(1:Int):=by omega
 have hin2:i≤n:=by omega
 have htn:((i:Int)+(1:Int)).toNat=i+1:=by omega
 have hb2:¬(c=i+1):=by omega
 have hb3:(i:Int)≤(n:Int)+(1:Int):=by omega
 have hb4:¬(c=i):=by omega
 have akM:c≤9223372036854775807:=by unfold maxLen at hc63;omega
 have nV:lC w b (n+1) 66 5 CS (.returned (.slice (some ⟨b,0,none⟩) (n+1) c)) ((w.drew.setRow b A1).setRow b A2):=by
  refine⟨b,c,A2,rfl,hroom,hc63,setRow_heap _ b A1 A2 66 (0,0) (setRow_heap w.drew b arr A1 66 (0,0) hb),?_,?_,.inl rfl,λk hk hl=>?_,?_,rfl,rfl,rfl,?_⟩
  ·rw[hA2,←has,←abf];simp;omega
  ·rw[hA2,hCS,hA1]
   have:=ahD (arr:=arr.toList) (cs:=cs) (row:=row) (p:=i*5) (m:=n*5) hcs (by omega) (by rw[hrl];simp;omega) (by omega)
   rw[hrl]at this
   rw[Nat.succ_mul,hrl]
   exact this
  ·rw[setRow_other _ b k A2 hk,setRow_other _ b k A1 hk];rfl
  ·simp only[World.setRow,Array.size_modify];exact Nat.le_refl _
  ·exact Nat.le_succ _
 clear hA1 hA2 abf hCS hcl hdl
 go_enter func176,Tryz.ntmps176
 go_wp2_with (simp only[hov])
 go_region_law_o (refine step_copy_runI rfl _ _ 49 49 rfl _ _ (by simp[Act.eval,Act.put]) (by simp[Act.eval,Act.put]) (hcp1 _ _ _) ?_)
 go_wp2_with (refine wpList_copy_runI _ rfl _ _ 49 49 rfl _ _ rfl rfl (hcp2 _ rfl _ _) ?_)
 go_ret
 exact nV
theorem acy(b n c vb vc:Nat)(arr fh:Array Value)(tv:TypeId)(cs row:List Value)(w:World)(hroom:n+1≤c)(hc63:c≤maxLen)
  (hb:w.heap[b]?=some (.cells arr 66 (0,0))) (has:arr.size=c*5) (hcs:arr.toList.take (n*5)=cs) (hv:w.heap[vb]?=some (.cells fh tv (0,0))) (hrow:fh.toList.take 5=row) (hrl:row.length=5)
  (h1v:∀v∈row,v.oneCell'=true) :
  Calls prog 176 #[.slice (some ⟨b,0,none⟩) n c,.int .i64 n,.slice (some ⟨vb,0,none⟩) 1 vc] w (lC w b (n+1) 66 5 (cs++row)):=by
 have mixed:=aaS
 obtain⟨i0,hi0,hz0,hzs,hzb⟩:=info_parts (by kernel_rfl:(prog.info? 66).map (λi=>(i.zero,i.size,i.bytes))=some (some (.agg #[.int .i64 0,.int .i64 0,.bool false,.slice none 0 0,.slice none 0 0]),5,72))
 have abe:n*5+5≤arr.size:=by rw[has,←Nat.succ_mul];exact Nat.mul_le_mul_right _ hroom
 have hcl:cs.length=n*5:=by rw[←hcs,List.length_take];simp;omega
 have sU:∀j v,row[j]?=some v→w.cell? ((⟨vb,0,none⟩:Addr).add j)=some v:=λj v hj=>by
  have hj2:j<row.length:=(List.getElem?_eq_some_iff.1 hj).1
  have:fh[j]?=some v:=by rw[←hj,←hrow,List.getElem?_take,if_pos (by omega),Array.getElem?_toList]
  rw[Addr.add_lit,Nat.zero_add]
  simp only[World.cell?,hv,this]
  rfl
 obtain⟨A,hA⟩:∃A:Array Value,A=(arr.toList.take (0+n*5)++row++arr.toList.drop (0+n*5+row.length)).toArray:=⟨_,rfl⟩
 have hrun:∀ty,(Builtin.append_ #[49,49] ty #[.slice (some ⟨b,0,none⟩) n c,.slice (some ⟨vb,0,none⟩) 1 vc]).run prog w=.ok (.slice (some ⟨b,0,none⟩) (n+1) c) (w.setRow b A):=λty=>by
  have:=pK w 49 ty 66 i0 underlying49 hi0 b 0 n c arr hb ⟨vb,0,none⟩ 1 vc row (by rw[hzs,hrl]) sU h1v hroom (by rw[hzs,hrl];omega)
  rw[hzs,←hA]at this
  exact this
 have nV:lC w b (n+1) 66 5 (cs++row) (.returned (.slice (some ⟨b,0,none⟩) (n+1) c)) (w.setRow b A):=by
  refine⟨b,c,A,rfl,hroom,hc63,setRow_heap w b arr A 66 (0,0) hb,?_,?_,.inl rfl,λk hk hl=>setRow_other w b k A hk,?_,rfl,rfl,rfl,Nat.le_refl _⟩
  ·rw[hA,←has];simp;omega
  ·rw[hA,Nat.zero_add,hcs]
   show List.take _ (cs++row++_)=_
   rw[List.take_append_of_le_length (by simp;rw[hcl,hrl];omega),List.take_of_length_le (by simp;rw[hcl,hrl];omega)]
  ·simp only[World.setRow,Array.size_modify];exact Nat.le_refl _
 have hz1:¬((1:Int)=0):=by omega
 have akM:c≤9223372036854775807:=by unfold maxLen at hc63;omega
 obtain⟨CS,hCS⟩:∃CS,CS=cs++row:=⟨_,rfl⟩
 rw[←hCS]at nV ⊢
 clear hA hcl abe hCS
 go_enter func176,Tryz.ntmps176
 go_wp2_with (at_builtin;refine Lib.wpList_append_run _ rfl _ _ _ _ rfl _ _ rfl rfl _ _ (hrun _) ?_)
 go_ret
 exact nV
theorem acz(b n c vb vc:Nat)(arr fh:Array Value)(tv:TypeId)(cs row:List Value)(w:World)(hnc:n≤c)(hroom:c<n+1)(hbig:(n+1)*72≤140737488355328)
  (hb:w.heap[b]?=some (.cells arr 66 (0,0))) (has:arr.size=c*5) (hcs:arr.toList.take (n*5)=cs) (hv:w.heap[vb]?=some (.cells fh tv (0,0))) (hrow:fh.toList.take 5=row) (hrl:row.length=5) :
  Calls prog 176 #[.slice (some ⟨b,0,none⟩) n c,.int .i64 n,.slice (some ⟨vb,0,none⟩) 1 vc] w (lC w b (n+1) 66 5 (cs++row)):=by
 have mixed:=aaS
 obtain⟨i0,hi0,hz0,hzs,hzb⟩:=info_parts (by kernel_rfl:(prog.info? 66).map (λi=>(i.zero,i.size,i.bytes))=some (some (.agg #[.int .i64 0,.int .i64 0,.bool false,.slice none 0 0,.slice none 0 0]),5,72))
 have abe:n*5≤arr.size:=by rw[has];exact Nat.mul_le_mul_right _ hnc
 have hcl:cs.length=n*5:=by rw[←hcs,List.length_take];simp;omega
 have sU:∀j v,row[j]?=some v→w.cell? ((⟨vb,0,none⟩:Addr).add j)=some v:=λj v hj=>by
  have hj2:j<row.length:=(List.getElem?_eq_some_iff.1 hj).1
  have:fh[j]?=some v:=by rw[←hj,←hrow,List.getElem?_take,if_pos (by omega),Array.getElem?_toList]
  rw[Addr.add_lit,Nat.zero_add]
  simp only[World.cell?,hv,this]
  rfl
 have hcell:∀j v,cs[j]?=some v→w.cell? ((⟨b,0,none⟩:Addr).add j)=some v:=λj v hj=>by
  have hj2:j<cs.length:=(List.getElem?_eq_some_iff.1 hj).1
  have:arr[j]?=some v:=by rw[←hj,←hcs,List.getElem?_take,if_pos (by omega),Array.getElem?_toList]
  rw[Addr.add_lit,Nat.zero_add]
  simp only[World.cell?,hb,this]
  rfl
 obtain⟨G,hG⟩:∃G,G=grownCap w (n+1) c 66:=⟨_,rfl⟩
 have hGn:n+1≤G:=by rw[hG];exact grownCap_ge w _ _ _
 have hGm:G≤maxLen:=by rw[hG];exact grownCap_le_maxLen w _ _ _ (by unfold maxLen;omega)
 obtain⟨ROW,sV⟩:∃ROW:Array Value,ROW=cs.toArray++row.toArray++Builtin.zeroCells (.agg #[.int .i64 0,.int .i64 0,.bool false,.slice none 0 0,.slice none 0 0]:Value).cells (G-(n+1)):=⟨_,rfl⟩
 have hrun:∀ty,(Builtin.append_ #[49,49] ty #[.slice (some ⟨b,0,none⟩) n c,.slice (some ⟨vb,0,none⟩) 1 vc]).run prog w=.ok (.slice (some ⟨w.heap.size,0,none⟩) (n+1) G) (w.drew.alloc (.cells ROW 66)):=λty=>by
  have:=run_append_grow w 49 ty 66 i0 _ underlying49 hi0 hz0 ⟨b,0,none⟩ n c cs (by rw[hzs,hcl]) hcell ⟨vb,0,none⟩ 1 vc row (by rw[hzs,hrl]) sU hroom (by omega) (by rw[hzb];exact growslice_fits hroom hbig)
  rw[←hG,←sV]at this
  exact this
 have nV:lC w b (n+1) 66 5 (cs++row) (.returned (.slice (some ⟨w.heap.size,0,none⟩) (n+1) G)) (w.drew.alloc (.cells ROW 66)):=by
  refine zf hGn hGm (arr:=ROW) ?_ ?_ (vC w _) (λk hk=>sN w _ k hk) (by show w.heap.size≤(w.heap.push _).size;simp) rfl rfl rfl (Nat.le_succ _)
  ·rw[sV]
   simp only[Array.size_append,List.size_toArray,qq,hcl,hrl]
   show n*5+5+(G-(n+1))*5=G*5
   rw[←Nat.succ_mul,←Nat.add_mul];congr 1;omega
  ·rw[sV]
   simp only[Array.toList_append]
   rw[List.take_append_of_le_length (by simp;rw[hcl,hrl];omega),List.take_of_length_le (by simp;rw[hcl,hrl];omega)]
 have hz1:¬((1:Int)=0):=by omega
 have akM:c≤9223372036854775807:=by omega
 obtain⟨CS,hCS⟩:∃CS,CS=cs++row:=⟨_,rfl⟩
 rw[←hCS]at nV ⊢
 clear sV hcl abe hCS hG
 go_enter func176,Tryz.ntmps176
 go_wp2_with (at_builtin;refine Lib.wpList_append_run _ rfl _ _ _ _ rfl _ _ rfl rfl _ _ (hrun _) ?_)
 all_goals (go_ret;exact nV)
theorem agJ(vb vc b:Nat)(fh:Array Value)(tv:TypeId)(row:List Value)(w:World)(hv:w.heap[vb]?=some (.cells fh tv (0,0)))(hrow:fh.toList.take 5=row)(hrl:row.length=5):
  Calls prog 176 #[.slice none 0 0,.int .i64 (0:Nat),.slice (some ⟨vb,0,none⟩) 1 vc] w (lC w b 1 66 5 row):=by
 have mixed:=aaS
 obtain⟨i0,hi0,hz0,hzs,hzb⟩:=info_parts (by kernel_rfl:(prog.info? 66).map (λi=>(i.zero,i.size,i.bytes))=some (some (.agg #[.int .i64 0,.int .i64 0,.bool false,.slice none 0 0,.slice none 0 0]),5,72))
 have sU:∀j v,row[j]?=some v→w.cell? ((⟨vb,0,none⟩:Addr).add j)=some v:=λj v hj=>by
  have hj2:j<row.length:=(List.getElem?_eq_some_iff.1 hj).1
  have:fh[j]?=some v:=by rw[←hj,←hrow,List.getElem?_take,if_pos (by omega),Array.getElem?_toList]
  rw[Addr.add_lit,Nat.zero_add]
  simp only[World.cell?,hv,this]
  rfl
 obtain⟨G,hG⟩:∃G,G=grownCap w 1 0 66:=⟨_,rfl⟩
 have hGn:1≤G:=by rw[hG];exact grownCap_ge w _ _ _
 have hGm:G≤maxLen:=by rw[hG];exact grownCap_le_maxLen w _ _ _ (by unfold maxLen;omega)
 obtain⟨ROW,sV⟩:∃ROW:Array Value,ROW=row.toArray++Builtin.zeroCells (.agg #[.int .i64 0,.int .i64 0,.bool false,.slice none 0 0,.slice none 0 0]:Value).cells (G-1):=⟨_,rfl⟩
 have hrun:∀ty,(Builtin.append_ #[49,49] ty #[.slice none 0 0,.slice (some ⟨vb,0,none⟩) 1 vc]).run prog w=.ok (.slice (some ⟨w.heap.size,0,none⟩) 1 G) (w.drew.alloc (.cells ROW 66)):=λty=>by
  have:=run_append_nil w 49 ty 66 i0 _ underlying49 hi0 hz0 ⟨vb,0,none⟩ 1 vc row (by rw[hzs,hrl]) sU (by omega) (by omega) (by rw[hzb];omega)
  rw[←hG,←sV]at this
  exact this
 have nV:lC w b 1 66 5 row (.returned (.slice (some ⟨w.heap.size,0,none⟩) 1 G)) (w.drew.alloc (.cells ROW 66)):=by
  refine zf hGn hGm (arr:=ROW) ?_ ?_ (vC w _) (λk hk=>sN w _ k hk) (by show w.heap.size≤(w.heap.push _).size;simp) rfl rfl rfl (Nat.le_succ _)
  ·rw[sV]
   simp only[Array.size_append,List.size_toArray,qq,hrl]
   show 5+(G-1)*5=G*5
   rw[←Nat.one_mul 5,←Nat.mul_assoc,←Nat.add_mul];congr 1;omega
  ·rw[sV]
   simp only[Array.toList_append]
   rw[List.take_append_of_le_length (by simp;rw[hrl];omega),List.take_of_length_le (by simp;rw[hrl];omega)]
 have hz1:¬((1:Int)=0):=by omega
 clear sV hG
 go_enter func176,Tryz.ntmps176
 go_wp2_with (at_builtin;refine Lib.wpList_append_run _ rfl _ _ _ _ rfl _ _ rfl rfl _ _ (hrun _) ?_)
 all_goals (go_ret;exact nV)
theorem afg(b n c i vb vc:Nat)(arr fh:Array Value)(tv:TypeId)(cs row:List Value)(w:World)(hi:i<n)(hnc:n≤c)(hroom:c<n+1)(hbig:(n+1)*72≤140737488355328)
  (hb:w.heap[b]?=some (.cells arr 66 (0,0))) (has:arr.size=c*5) (hcs:arr.toList.take (n*5)=cs) (hv:w.heap[vb]?=some (.cells fh tv (0,0))) (hrow:fh.toList.take 5=row) (hrl:row.length=5)
  (h1c:∀v∈cs,v.oneCell'=true) (h1v:∀v∈row,v.oneCell'=true) :
  Calls prog 176 #[.slice (some ⟨b,0,none⟩) n c,.int .i64 i,.slice (some ⟨vb,0,none⟩) 1 vc] w (lC w b (n+1) 66 5 (cs.take (i*5)++row++cs.drop (i*5))):=by
 obtain⟨CS,hCS⟩:∃CS,CS=cs.take (i*5)++row++cs.drop (i*5):=⟨_,rfl⟩
 rw[←hCS]
 have mixed:=aaS
 obtain⟨i0,hi0,hz0,hzs,hzb⟩:=info_parts (by kernel_rfl:(prog.info? 66).map (λi=>(i.zero,i.size,i.bytes))=some (some (.agg #[.int .i64 0,.int .i64 0,.bool false,.slice none 0 0,.slice none 0 0]),5,72))
 have abe:n*5≤arr.size:=by rw[has];exact Nat.mul_le_mul_right _ hnc
 have hcl:cs.length=n*5:=by rw[←hcs,List.length_take];simp;omega
 have hbl:b<w.heap.size:=cG hb
 have hvl:vb<w.heap.size:=cG hv
 have hin:i*5+5≤n*5:=by rw[←Nat.succ_mul];exact Nat.mul_le_mul_right _ hi
 have hdl:(cs.drop (i*5)).length=(n-i)*5:=by rw[List.length_drop,hcl,Nat.sub_mul]
 have sU:∀(W:World),W.heap[vb]?=some (.cells fh tv (0,0))→∀j v,row[j]?=some v→W.cell? ((⟨vb,0,none⟩:Addr).add j)=some v:=λW hW j v hj=>by
  have hj2:j<row.length:=(List.getElem?_eq_some_iff.1 hj).1
  have:fh[j]?=some v:=by rw[←hj,←hrow,List.getElem?_take,if_pos (by omega),Array.getElem?_toList]
  rw[Addr.add_lit,Nat.zero_add]
  simp only[World.cell?,hW,this]
  rfl
 have hcell:∀(W:World),W.heap[b]?=some (.cells arr 66 (0,0))→∀j v,cs[j]?=some v→W.cell? ⟨b,j,none⟩=some v:=λW hW j v hj=>by
  have hj2:j<cs.length:=(List.getElem?_eq_some_iff.1 hj).1
  have:arr[j]?=some v:=by rw[←hj,←hcs,List.getElem?_take,if_pos (by omega),Array.getElem?_toList]
  simp only[World.cell?,hW,this]
  rfl
 obtain⟨G,hG⟩:∃G,G=grownCap w (n+1) c 66:=⟨_,rfl⟩
 have hGn:n+1≤G:=by rw[hG];exact grownCap_ge w _ _ _
 have hGm:G≤maxLen:=by rw[hG];exact grownCap_le_maxLen w _ _ _ (by unfold maxLen;omega)
 obtain⟨ROW,sV⟩:∃ROW:Array Value,ROW=(cs.take (i*5)).toArray++Builtin.zeroCells (.agg #[.int .i64 0,.int .i64 0,.bool false,.slice none 0 0,.slice none 0 0]:Value).cells (n+1-i)++Builtin.zeroCells (.agg #[.int .i64 0,.int .i64 0,.bool false,.slice none 0 0,.slice none 0 0]:Value).cells (G-(n+1)):=⟨_,rfl⟩
 have hRs:ROW.size=G*5:=by
  rw[sV]
  simp only[Array.size_append,List.size_toArray,qq,List.length_take,hcl]
  show min (i*5) (n*5)+(n+1-i)*5+(G-(n+1))*5=G*5
  rw[Nat.min_eq_left (by omega),←Nat.add_mul,←Nat.add_mul];congr 1;omega
 have hG5:n*5+5≤G*5:=by rw[←Nat.succ_mul];exact Nat.mul_le_mul_right _ hGn
 have hR0:ROW.toList.take (i*5)=cs.take (i*5):=by
  rw[sV]
  simp only[Array.toList_append]
  rw[List.append_assoc,List.take_append_of_le_length (by simp;omega),List.take_of_length_le (by simp;omega)]
 have hkk:(n:Int)+(1:Int)-(i:Int)=((n+1-i:Nat):Int):=by omega
 have hik:i+(n+1-i)=n+1:=by omega
 have hold:(Builtin.firstCells i0.size i (.slice (some ⟨b,0,none⟩) i c)).run prog w.drew=.ok (cs.take (i*5)).toArray w.drew:=by
  rw[hzs]
  exact run_firstCells_some w.drew 5 i ⟨b,0,none⟩ i c (cs.take (i*5)) (by rw[List.length_take];omega) (λj v hj=>by
   rw[Addr.add_lit,Nat.zero_add]
   rw[List.getElem?_take]at hj
   split at hj
   ·exact hcell w.drew hb j v hj
   ·cases hj)
 have hrz:∀ty,(Builtin.append_ #[49,3] ty #[.slice (some ⟨b,0,none⟩) i c,.int .i64 ((n:Int)+(1:Int)-(i:Int))]).run prog w=.ok (.slice (some ⟨w.heap.size,0,none⟩) (n+1) G) (w.drew.alloc (.cells ROW 66)):=λty=>by
  have h:=Lib.run_append_grow_zeros w 49 3 ty 66 i0 _ .i64 .i64 underlying49 underlying3 hi0 hz0 (some ⟨b,0,none⟩) i c (cs.take (i*5)) hold (n+1-i) (by omega) (by omega) (by omega) (by omega) (by rw[hzb];omega) (by rw[hzb,hik];exact growslice_fits hroom hbig)
  rw[hik,←hG]at h
  rw[hkk,sV]
  exact h
 obtain⟨R1,hR1⟩:∃R1:Array Value,R1=(ROW.toList.take (i*5)++row++ROW.toList.drop (i*5+row.length)).toArray:=⟨_,rfl⟩
 have ajf:R1.size=ROW.size:=by rw[hR1];simp;omega
 obtain⟨R2,hR2⟩:∃R2:Array Value,R2=(R1.toList.take (i*5+5)++cs.drop (i*5)++R1.toList.drop (i*5+5+(cs.drop (i*5)).length)).toArray:=⟨_,rfl⟩
 have hcpA:∀(W:World),W.heap=(w.drew.alloc (.cells ROW 66)).heap→∀ty dc,(Builtin.copy_ #[49,49] ty #[.slice (some ⟨w.heap.size,i*5,none⟩) (n+1-i) dc,.slice (some ⟨vb,0,none⟩) 1 vc]).run prog W=.ok (goInt (1:Nat)) (W.setRow w.heap.size R1):=λW hW ty dc=>by
  rw[hR1]
  exact rD W 49 49 ty 66 w.heap.size (i*5) (n+1-i) dc ⟨vb,0,none⟩ 1 vc 5 1 ROW 66 row underlying49 sizeOf66 (by rw[hW];exact vC w _) (by simp only[Nat.min_def];split<;>omega) (by omega)
   (sU W (by rw[hW,sN w _ vb hvl];exact hv)) (by omega) h1v
 have hcpB:∀(W:World),W.heap=((w.drew.alloc (.cells ROW 66)).setRow w.heap.size R1).heap→∀ty dc sc,(Builtin.copy_ #[49,49] ty #[.slice (some ⟨w.heap.size,(i+1)*5,none⟩) (n-i) dc,.slice (some ⟨b,i*5,none⟩) (n-i) sc]).run prog W=.ok (goInt (n-i:Nat)) (W.setRow w.heap.size R2):=λW hW ty dc sc=>by
  rw[hR2,Nat.succ_mul]
  exact rD W 49 49 ty 66 w.heap.size (i*5+5) (n-i) dc ⟨b,i*5,none⟩ (n-i) sc 5 (n-i) R1 66 (cs.drop (i*5)) underlying49 sizeOf66 (by rw[hW];exact setRow_heap _ _ ROW R1 66 (0,0) (vC w _)) (by simp only[Nat.min_def];split<;>omega) hdl
   (λj v hj=>by
    rw[Addr.add_lit]
    exact hcell W (by rw[hW,setRow_other _ _ b _ (by omega),sN w _ b hbl];exact hb) (i*5+j) v (by rwa [List.getElem?_drop]at hj))
   (by rw[hdl,ajf,hRs,Nat.sub_mul];omega) (λv hv=>h1c v (List.mem_of_mem_drop hv))
 have nV:∀(w':World),w'.heap=(((w.drew.alloc (.cells ROW 66)).setRow w.heap.size R1).setRow w.heap.size R2).heap→w'.tape=w.tape→w'.os=w.os→w'.output=w.output→w.drawn≤w'.drawn→lC w b (n+1) 66 5 CS (.returned (.slice (some ⟨w.heap.size,0,none⟩) (n+1) G)) w':=λw' hh h1 h2 h3 h4=>by
  refine zf hGn hGm (arr:=R2) ?_ ?_ (by rw[hh];exact setRow_heap _ _ R1 R2 66 (0,0) (setRow_heap _ _ ROW R1 66 (0,0) (vC w _))) (λk hk=>by rw[hh,setRow_other _ _ k _ (by omega),setRow_other _ _ k _ (by omega),sN w _ k hk]) ?_ h1 h2 h3 h4
  ·rw[hR2,←hRs,←ajf];simp[hdl,Nat.sub_mul];omega
  ·rw[hR2,hCS,hR1]
   have:=agx (r0:=ROW.toList) (cs:=cs) (row:=row) (p:=i*5) (m:=n*5) hR0 hcl (by omega) (by rw[hrl];simp;omega)
   rw[hrl]at this
   rw[Nat.succ_mul,hrl]
   exact this
  ·rw[hh];simp only[World.setRow,Array.size_modify];show w.heap.size≤(w.heap.push _).size;simp
 have hz1:¬((1:Int)=0):=by omega
 have hz2:¬((i:Int)=(n:Int)):=by omega
 have hz3:(c:Int)<(n:Int)+(1:Int):=by omega
 have hG63:G≤9223372036854775807:=by unfold maxLen at hGm;omega
 have hGi:¬(G=i):=by omega
 have hGim:¬(G=i+1):=by omega
 have hci:¬(c=i):=by omega
 have hbN:b≠w.heap.size:=by omega
 have hw1:IntKind.i64.wrap ((i:Int)+(1:Int))=(i:Int)+(1:Int):=by rw[IntKind.wrap_i64];omega
 have hw2:IntKind.i64.wrap ((n:Int)+(1:Int))=(n:Int)+(1:Int):=by rw[IntKind.wrap_i64];omega
 have hb1:(0:Int)≤(i:Int)+(1:Int):=by omega
 have hin2:i≤n:=by omega
 have htn:((i:Int)+(1:Int)).toNat=i+1:=by omega
 have hb3:(i:Int)≤(n:Int):=by omega
 clear hkk hik hold sV hG hRs hR0 hR1 hR2 ajf hcl hdl hCS
 go_enter func176,Tryz.ntmps176
 go_wp2_with (first
  |(at_builtin;refine Lib.wpList_append_run _ rfl _ _ _ _ rfl _ _ rfl rfl _ _ (hrz _) ?_)
  |(refine wpList_copy_runI _ rfl _ _ 49 49 rfl _ _ rfl rfl (hcpA _ rfl _ _) ?_))
 go_region_law_o (refine step_copy_runI rfl _ _ 49 49 rfl (.slice (some ⟨w.heap.size,(i+1)*5,none⟩) (n-i) (G-(i+1))) (.slice (some ⟨b,i*5,none⟩) (n-i) (c-i)) (by simp[Act.eval,Act.put]) (by simp[Act.eval,Act.put]) (hcpB (((w.alloc (.cells ROW 66)).drew.setRow w.heap.size R1).drew) rfl 3 (G-(i+1)) (c-i)) ?_)
 go_wp2
 go_ret
 exact nV _ rfl rfl rfl rfl (Nat.le_add_right w.drawn 2)
theorem apP:afH prog 176 66 5 72:=by
 refine⟨λb n c i vb vc arr fh tv cs row w hi hnc hcm hne hbig hb has hcs hv hrow hrl h1c h1v=>?_,λvb vc b fh tv row w hv hrow hrl=>agJ vb vc b fh tv row w hv hrow hrl⟩
 rcases Nat.lt_or_eq_of_le hi with hlt|rfl
 ·by_cases hr:n+1≤c
  ·exact aex b n c i vb vc arr fh tv cs row w hlt hr hcm hne hb has hcs hv hrow hrl h1c h1v
  ·exact afg b n c i vb vc arr fh tv cs row w hlt hnc (by omega) hbig hb has hcs hv hrow hrl h1c h1v
 ·have hcl:cs.length≤i*5:=by rw[←hcs,List.length_take];omega
  rw[List.take_of_length_le hcl,List.drop_eq_nil_of_le hcl,List.append_nil]
  by_cases hr:i+1≤c
  ·exact acy b i c vb vc arr fh tv cs row w hr hcm hb has hcs hv hrow hrl h1v
  ·exact acz b i c vb vc arr fh tv cs row w hnc (by omega) hbig hb has hcs hv hrow hrl
theorem ahF{d d2 D:Nat}{l m:List ai}{i:Int}{x:ai}(h:acf l i x=some m)(hd:d2≠d)(hD:D∉[d,d2]):bM prog 176 [(d,.slice 66 5 (ml aQ l) 0 false),(d2,.slice 66 5 (ml aQ [x]) 0 false)] [.own d,.int .i64 i,.own d2] (λa σ'=>a=.own D∧σ'=[(D,.slice 66 5 (ml aQ m) 0 false)]):=by
 obtain⟨h1,h2,rfl⟩:=ahq h
 have q:=agy apP (by decide) (d:=d) (d2:=d2) (D:=D) (i:=i) (xs:=ml aQ l) (row:=aQ.enc x) (zV aQ l) (aQ.hz x) (aed aQ l) (aQ.one x) (by rw[gQ];exact h1) (by rw[gQ];exact h2) hd hD
 have e:ml aQ (l.take i.toNat++x::l.drop i.toNat)=(ml aQ l).take i.toNat++aQ.enc x::(ml aQ l).drop i.toNat:=by simp[ml,List.map_take,List.map_drop]
 rw[e];exact q
end Go.Proofs.YtjdopimopgpagaaGreat
