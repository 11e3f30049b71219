import Derived.Test.YtjbfcacmdahnhaaGreatZts
set_option linter.unusedVariables false
set_option linter.unusedSimpArgs false
set_option linter.unusedSectionVars false
set_option maxRecDepth 100000
set_option maxHeartbeats 8000000
namespace Go.Proofs.YtjbfcacmdahnhaaGreat
section
open Go.RowKit Go.Maps
instance scEQF:EQF opL [.int,.int,.int,.int]:=⟨fun x y=>by
 obtain ⟨a,b,c,d⟩:=x;obtain ⟨e,f,g,h⟩:=y
 simp only[opL,cellsEq,scEq,if_true,Bool.and_true,Opn.mk.injEq,Option.some.injEq]
 rw[Bool.eq_iff_iff];simp⟩
theorem byte_of (m:Nat):IntKind.u8.wrap (m:Int)=((UInt8.ofNat (m % 256)).toNat:Int):=by
 have h1:(UInt8.ofNat (m % 256)).toNat=m % 256:=by
  rw[UInt8.toNat_ofNat'];omega
 rw[h1,IntKind.wrap_u8];omega
theorem byte_k {k:Int}:IntKind.u8.wrap k=((UInt8.ofNat (u64of k % 256)).toNat:Int):=by
 rw[← byte_of]
 unfold u64of
 rw[IntKind.wrap_u8,IntKind.wrap_u8];omega
theorem pow_256 (m:Nat):2 ^ (8*m)=256 ^ m:=by rw[Nat.pow_mul]
structure WrZ where
 j:Nat
 h:SlH
 bs:List UInt8
theorem wrL_take {o:Opn} {ds:List Od} {j:Nat} {d:Od} (h:ds[j]? = some d):wrL o (ds.take (j+1))=wrL o (ds.take j)++wrB o d:=by
 rw[wrL,wrL,List.take_add_one,h,List.flatMap_append];simp
theorem wrL_le (o:Opn) (ds:List Od) (h:ds.length≤2):(wrL o ds).length≤17:=by
 rw[wrL_len]
 have:∀ l:List Od,szL l≤8*l.length:=fun l=>by
  induction l with
  | nil=>decide
  | cons d l ih=>have:=od_size d;rw[szL,List.length_cons];omega
 have:=this ds
 omega
theorem write_none (o:Opn) (hk:I64 o.k) (hd:odsOf o.k=none) (R:List Asn):Spec 162 [opV o] R fun u L'=>u=.tuple [.slice none 0 0,.bool false].toArray∧L'=R:=by
 have hop:=fun R=>operands_spec o.k hk R
 rw[hd] at hop
 obtain ⟨k,ix,tg,am⟩:=o
 simp only[Option.isSome_none,Option.getD_none] at hop
 refine zGz zk162 Tryz.func162 ?_;intro G;(repeat'(first|refine zA ?_;repeat intro nb|refine zC ?_;refine acW (k:=237) (hop _) ?_;rintro u L' ⟨ho,rfl,rfl⟩|refine zB ?_ ?_<;>intro hc<;>try exact no hc|refine zH ?_ ?_<;>(intro hg;rw[hg];try exact no hg)));all_goals try refine zO fun a w F M=>?_
 all_goals refine zE F M ?_
 all_goals exact⟨_,_,rfl,⟨rfl,rfl⟩,M.perms permsA⟩
theorem write_some (o:Opn) (hk:I64 o.k) (ha:U64 o.am) (ds:List Od) (hd:odsOf o.k=some ds) (R:List Asn):Spec 162 [opV o] R fun u L'=>∃ h,u=.tuple [sl h,.bool true].toArray∧L'=ownT 5 u8L 1 (sl h) (wrL o ds)::R:=by
 have hop:=fun R=>operands_spec o.k hk R
 rw[hd] at hop
 have hgt:=fun (d:Od) R=>odget_spec d o ha R
 obtain ⟨hl2,hz⟩:=ods_len hd
 have hb0:IntKind.u8.wrap o.k=_:=byte_k (k:=o.k)
 have hwl:∀ j,wrL o (ds.take j)=UInt8.ofNat (u64of o.k % 256)::(ds.take j).flatMap (wrB o):=fun j=>rfl
 have hwt:=fun {j:Nat} {d:Od} (h:ds[j]? = some d)=>wrL_take (o:=o) h
 have hwn:=fun j=>wrL_le o (ds.take j) (by rw[List.length_take];omega)
 have hwd:∀ d,wrB o d=bigL (u64of (d.get o)) d.size:=fun d=>rfl
 obtain ⟨k,ix,tg,am⟩:=o
 simp only[Option.isSome_some,Option.getD_some] at hop hb0 hwl
 generalize hO:(⟨k,ix,tg,am⟩:Opn)=O at hwl hwt hwn hwd ⊢
 have hgt:∀ (d:Od) (R:List Asn),Spec d.gf [opV ⟨k,ix,tg,am⟩] R fun u L'=>u=.int .u64 (u64of (d.get O):Int)∧L'=R:=by subst hO;exact hgt
 have hO2:opV O=opV ⟨k,ix,tg,am⟩:=by rw[hO]
 rw[hO2]
 refine zGz zk162 Tryz.func162 ?_;intro G;(repeat'(first|refine zV (h:=⟨_,by((apply rt_conv;(exact rfl);(exact rfl);(exact inferInstance);(exact inferInstance);(exact hb0))),?_⟩)|refine zA1 ?_;repeat intro(nb:Nat)|refine zC ?_;refine acW (k:=237) (hop _) ?_;rintro u L' ⟨ho,rfl,rfl⟩|refine zB ?_ ?_<;>intro hc<;>try exact no hc|refine zH ?_ ?_<;>(intro hg;rw[hg];try exact no hg)));all_goals try refine zO fun a w F M=>?_
 obtain ⟨b1,hb1⟩:∃ b1,b1=nb:=⟨_,rfl⟩
 refine svLoop F M (⟨0,⟨some ⟨nb,0,none⟩,1,1⟩,[UInt8.ofNat (u64of k % 256)]⟩:WrZ) (fun z=>[(24,.int .i64 z.j),(6,sl z.h)]) (fun z=>[ownT 5 u8L 1 (sl z.h) z.bs]) (fun z=>z.j≤ds.length∧z.bs=wrL O (ds.take z.j)) (fun z=>ds.length - z.j) [8,9] ⟨Nat.zero_le _,by rw[hwl];rfl⟩ ?_ (hR:=by(repeat (first|exact Pulls.nil|(apply Pulls.cons;(focus ((repeat (first|exact Pull.here|apply Pull.there));done))))))
 (rintro⟨j,h,bs⟩ ⟨q1,q2⟩ a w F M;(try simp only[zc,zn] at F M q1 q2 ⊢))
 by_cases hj:j<ds.length
 ·obtain ⟨d,hdj⟩:∃ d,ds[j]? = some d:=⟨ds[j],by simp[hj]⟩
  have hds:=od_size d
  have hw1:=hwt hdj
  have hw2:=hwn (j+1)
  have hw3:=hwd d
  have hg1:=fun R=>hgt d R
  generalize u64of (d.get O)=X at *
  rw[hw1,← q2,hw3] at hw2
  rw[List.length_append,bigL_len] at hw2
  (try refine zI zk162 F M ?_;clear F M a;try clear w);(repeat'(first|refine zV (h:=⟨_,by(fail),?_⟩)|refine zA1 ?_;repeat intro(nb:Nat)|refine zC ?_;refine acW (k:=237) (hop _) ?_;rintro u L' ⟨ho,rfl,rfl⟩|refine zB ?_ ?_<;>intro hc<;>try exact no hc|refine zH ?_ ?_<;>(intro hg;rw[hg];try exact no hg)));all_goals try refine zO fun a w F M=>?_
  refine svLoop F M (⟨d.size,h,[]⟩:WrZ) (fun z=>[(9,.int .i64 ((z.j:Int) - 1)),(6,sl z.h)]) (fun z=>[ownT 5 u8L 1 (sl z.h) (bs++z.bs)]) (fun z=>z.bs++bigL X z.j=bigL X d.size∧z.j≤d.size) (fun z=>z.j) [] ⟨rfl,Nat.le_refl _⟩ ?_ (hR:=by rw[List.append_nil];(repeat (first|exact Pulls.nil|(apply Pulls.cons;(focus ((repeat (first|exact Pull.here|apply Pull.there));done))))))
  (rintro⟨m,h,T⟩ ⟨p1,p2⟩ a w F M;(try simp only[zc,zn] at F M p1 p2 ⊢))
  have hTl:=congrArg List.length p1
  rw[List.length_append,bigL_len,bigL_len] at hTl
  cases m with
  | zero =>
   simp only[bigL,List.append_nil] at p1
   have ee:((0:Nat):Int) - 1 = -1:=rfl
   rw[ee] at F
   subst p1
   (try refine zI zk162 F M ?_;clear F M a;try clear w);(repeat'(first|refine zV (h:=⟨_,by(fail),?_⟩)|refine zA1 ?_;repeat intro(nb:Nat)|refine zB ?_ ?_<;>intro hc<;>try exact no hc|refine zH ?_ ?_<;>(intro hg;rw[hg];try exact no hg)));all_goals try refine zO fun a w F M=>?_
   refine sv_again F M (⟨j+1,h,bs++bigL X d.size⟩:WrZ) kpA permsA ⟨by simp only;omega,?_⟩ (by simp only;omega)
   rw[hw1,q2,hw3]
  | succ m =>
   have ee:((m+1:Nat):Int) - 1=m:=by omega
   rw[ee] at F
   have hby:IntKind.u8.wrap ((X / 2 ^ (8*m):Nat):Int)=((UInt8.ofNat (X / 256 ^ m % 256)).toNat:Int):=by rw[pow_256];exact byte_of _
   have e8:(8:Int)*(m:Int)=((8*m:Nat):Int):=by omega
   (try refine zI zk162 F M ?_;clear F M a;try clear w);(repeat'(first|refine zV (h:=⟨_,by((first|(refine rt_shr (k:=.i64) (m:=X) (s:=8*m) rfl rfl ?_ ?_;(rw[← e8];exact rfl);omega)|(apply rt_conv;(exact rfl);(exact rfl);(exact inferInstance);(exact inferInstance);(exact hby)))),?_⟩)|refine zA1 ?_;repeat intro(nb:Nat)|refine zC ?_;(first|refine kpW (k:=d.gf) (hg1 _) ?_|refine ac_appendH (f:=u8L) (xs:=bs++T) (ys:=[UInt8.ofNat (X / 256 ^ m % 256)]) rfl rfl inferInstance rfl rfl pullA inferInstance gsA rfl rfl (by simp;omega) ?_;intro nv)|refine zB ?_ ?_<;>intro hc<;>try exact no hc|refine zH ?_ ?_<;>(intro hg;rw[hg];try exact no hg)));all_goals try refine zO fun a w F M=>?_
   refine sv_again F M (⟨m,nv,T++[UInt8.ofNat (X / 256 ^ m % 256)]⟩:WrZ) kpA (by rw[← List.append_assoc];exact permsA) ⟨?_,by simp only;omega⟩ (by simp only;omega)
   rw[← p1,bigL];simp
 ·obtain rfl:j=ds.length:=by omega
  rw[List.take_length] at q2
  subst q2
  (try refine zI zk162 F M ?_;clear F M a;try clear w);(repeat'(first|refine zA ?_;repeat intro nb|refine zB ?_ ?_<;>intro hc<;>try exact no hc|refine zH ?_ ?_<;>(intro hg;rw[hg];try exact no hg)));all_goals try refine zO fun a w F M=>?_
  all_goals refine zE F M ?_
  all_goals exact⟨_,_,rfl,⟨h,rfl,rfl⟩,M.perms permsA⟩
theorem opvalid_spec (o:Opn) (hk:I64 o.k) (hr:OpR o) (R:List Asn):Spec 161 [opV o] R fun u L'=>u=.bool (okM o)∧L'=R:=by
 obtain ⟨r1,r2,r3⟩:=hr
 cases hd:odsOf o.k with
 | none =>
  have hw:=fun R=>write_none o hk hd R
  have e:okM o=false:=by rw[okM,hd]
  rw[e]
  obtain ⟨k,ix,tg,am⟩:=o
  refine zGz zk161 Tryz.func161 ?_;intro G;(repeat'(first|refine zA ?_;repeat intro nb|refine zC ?_;refine kpW (k:=162) (hw _) ?_|refine zB ?_ ?_<;>intro hc<;>try exact no hc|refine zH ?_ ?_<;>(intro hg;rw[hg];try exact no hg)));all_goals try refine zO fun a w F M=>?_
  all_goals refine zE F M ?_
  all_goals exact⟨_,_,rfl,⟨rfl,rfl⟩,M.perms permsA⟩
 | some ds =>
  have hw:=fun R=>write_some o hk r3 ds hd R
  have hv:=valid_iff o r1 r2 r3 ds hd
  have hl:=wrL_len o ds
  obtain ⟨hl2,hz⟩:=ods_len hd
  have hdc:=fun (h:SlH) R (hg:BG R h (wrL o ds))=>dec_spec h (wrL o ds) 0 (by omega) (by omega) R hg
  rw[← hv]
  obtain ⟨k,ix,tg,am⟩:=o
  generalize wrL ⟨k,ix,tg,am⟩ ds=W at *
  generalize decM W 0=X at *
  obtain ⟨p,nx⟩:=X
  simp only at hdc ⊢
  refine zGz zk161 Tryz.func161 ?_;intro G;(repeat'(first|refine zV (h:=⟨_,by((refine rt_eqlT (f:=opL) (p:=p) (q:=⟨k,ix,tg,am⟩) rfl rfl rfl inferInstance inferInstance)),?_⟩)|refine zA1 ?_;repeat intro(nb:Nat)|refine zC ?_;refine acW (k:=162) (hw _) ?_;rintro u L' ⟨h,rfl,rfl⟩|refine zB ?_ ?_<;>intro hc<;>try exact no hc|refine zH ?_ ?_<;>(intro hg;rw[hg];try exact no hg)));all_goals try refine zO fun a w F M=>?_
  have gb:=bg_own M pullA
  (try refine zI zk161 F M ?_;clear F M a;try clear w);(repeat'(first|refine zV (h:=⟨_,by((refine rt_eqlT (f:=opL) (p:=p) (q:=⟨k,ix,tg,am⟩) rfl rfl rfl inferInstance inferInstance)),?_⟩)|refine zA1 ?_;repeat intro(nb:Nat)|refine zC ?_;refine acW (k:=236) (hdc h _ ?_) ?_;(focus ((repeat (first|assumption|apply BG.tail));done));rintro u L' ⟨rfl,rfl⟩|refine zB ?_ ?_<;>intro hc<;>try exact no hc|refine zH ?_ ?_<;>(intro hg;rw[hg];try exact no hg)));all_goals try refine zO fun a w F M=>?_
  all_goals refine zE F M ?_
  all_goals exact⟨_,_,rfl,⟨rfl,rfl⟩,M.perms permsA⟩
end
section
open Go.RowKit Go.Maps
theorem okM_enc {o:Opn} (h:okM o=true):∃ ds,odsOf o.k=some ds∧encM o=wrL o ds∧(encM o).length≤17:=by
 obtain ⟨ds,hd⟩:=okM_true h
 have e:encM o=wrL o ds:=by rw[encM,hd.k]
 exact⟨ds,hd.k,e,by rw[e];exact wrL_le o ds (ods_len hd.k).1⟩
theorem oenc_no (o:Opn) (hk:I64 o.k) (hr:OpR o) (h:okM o=false) (R:List Asn):Spec 99 [opV o] R fun u L'=>u=.tuple [.slice none 0 0,.bool false].toArray∧L'=R:=by
 have hv:=fun R=>opvalid_spec o hk hr R
 rw[h] at hv
 obtain ⟨k,ix,tg,am⟩:=o
 refine zGz zk99 Tryz.func99 ?_;intro G;(repeat'(first|refine zA ?_;repeat intro nb|refine zC ?_;refine kpW (k:=161) (hv _) ?_|refine zB ?_ ?_<;>intro hc<;>try exact no hc|refine zH ?_ ?_<;>(intro hg;rw[hg];try exact no hg)));all_goals exact zXz
theorem oenc_yes (o:Opn) (hk:I64 o.k) (hr:OpR o) (h:okM o=true) (R:List Asn):Spec 99 [opV o] R fun u L'=>∃ h,u=.tuple [sl h,.bool true].toArray∧L'=ownT 5 u8L 1 (sl h) (encM o)::R:=by
 have hv:=fun R=>opvalid_spec o hk hr R
 rw[h] at hv
 obtain ⟨ds,hd,e,_⟩:=okM_enc h
 have hw:=fun R=>write_some o hk hr.2.2 ds hd R
 rw[← e] at hw
 obtain ⟨k,ix,tg,am⟩:=o
 refine zGz zk99 Tryz.func99 ?_;intro G;(repeat'(first|refine zA ?_;repeat intro nb|refine zC ?_;(first|refine kpW (k:=161) (hv _) ?_|refine acW (k:=162) (hw _) ?_;rintro u L' ⟨h,rfl,rfl⟩)|refine zB ?_ ?_<;>intro hc<;>try exact no hc|refine zH ?_ ?_<;>(intro hg;rw[hg];try exact no hg)));all_goals try refine zO fun a w F M=>?_
 all_goals refine zE F M ?_
 all_goals exact⟨_,_,rfl,⟨h,rfl,rfl⟩,M.perms permsA⟩
theorem encAll_take {l:List Opn} {j:Nat} {o:Opn} (h:l[j]? = some o):encAll (l.take (j+1))=encAll (l.take j)++encM o:=by
 rw[encAll,encAll,List.take_add_one,h,List.flatMap_append];simp
theorem encAll_le:∀ (l:List Opn),(∀ o∈l,okM o=true)→(encAll l).length≤17*l.length
 | [],_=>by simp[encAll]
 | o::l,h=>by
  obtain ⟨_,_,_,h1⟩:=okM_enc (h o (by simp))
  have h2:=encAll_le l fun o ho=>h o (by simp[ho])
  rw[encAll,List.flatMap_cons,List.length_append,List.length_cons]
  rw[encAll] at h2
  omega
section
variable (v:Value) (l:List Opn) (R:List Asn) (hg:GS R 4 v l.length (l.flatMap opL)) (hl:l.length≤1000) (hwf:∀ o∈l,I64 o.k∧OpR o)
include hg hl hwf
theorem senc_spec:Spec 36 [v] R fun u L'=>∃ h bs,(u=.tuple [sl h,.bool (l.all okM)].toArray∧bs=if l.all okM=true then encAll l else [])∧L'=ownT 5 u8L 1 (sl h) bs::R:=by
 obtain ⟨X,hX⟩:∃ X,l.all okM=X:=⟨_,rfl⟩
 rw[hX]
 refine zGo Tryz.func36 ?_;intro G w M a F
 have gg:GS (R++G) 4 v l.length (l.flatMap opL):=Gives.app hg
 have hlv:=gg.len_le M
 have M:=M.own_nil 5 1
 (try refine zI zk36 F M ?_;clear F M a;try clear w);(repeat'(first|refine zA ?_;repeat intro nb|refine zB ?_ ?_<;>intro hc<;>try exact no hc|refine zH ?_ ?_<;>(intro hg;rw[hg];try exact no hg)));all_goals try refine zO fun a w F M=>?_
 refine svLoop F M ((0,nilH,[]):Nat × SlH × List UInt8) (fun z=>[(11,.int .i64 z.1),(4,sl z.2.1)]) (fun z=>[ownT 5 u8L 1 (sl z.2.1) z.2.2]) (fun z=>z.1≤l.length∧z.2.2=encAll (l.take z.1)∧(l.drop z.1).all okM=X∧∀ o∈l.take z.1,okM o=true) (fun z=>l.length - z.1) [6,7,8] ⟨Nat.zero_le _,rfl,hX,by simp⟩ ?_ (hR:=by(repeat (first|exact Pulls.nil|(apply Pulls.cons;(focus ((repeat (first|exact Pull.here|apply Pull.there));done))))))
 (rintro⟨k,hh,bs⟩ ⟨q1,q2,q3,q4⟩ a w F M;(try simp only[zc,zn] at F M q1 q2 q3 q4 ⊢))
 by_cases hk:k<l.length
 ·obtain ⟨o,ho⟩:∃ o,l[k]? = some o:=⟨l[k],by simp[hk]⟩
  obtain ⟨w1,w2⟩:=hwf o (List.mem_of_getElem? ho)
  have hbl:=encAll_le _ q4
  rw[← q2,List.length_take] at hbl
  rw[drop_cons ho,List.all_cons] at q3
  cases hok:okM o
  ·rw[hok,Bool.false_and] at q3
   subst q3
   have he:=fun R=>oenc_no o w1 w2 hok R
   obtain ⟨ok,oi,ot,oa⟩:=o
   (try refine zI zk36 F M ?_;clear F M a;try clear w);(repeat'(first|refine zA ?_;repeat intro nb|refine zC ?_;refine kpW (k:=99) (he _) ?_|refine zB ?_ ?_<;>intro hc<;>try exact no hc|refine zH ?_ ?_<;>(intro hg;rw[hg];try exact no hg)));all_goals try refine zO fun a w F M=>?_
   all_goals refine zE F M ?_
   all_goals exact⟨_,_,rfl,⟨nilH,[],⟨rfl,rfl⟩,rfl⟩,(M.own_nil 5 1).perms permsA⟩
  ·rw[hok,Bool.true_and] at q3
   have he:=fun R=>oenc_yes o w1 w2 hok R
   obtain ⟨_,_,_,h17⟩:=okM_enc hok
   have hst:=encAll_take ho
   rw[← q2] at hst
   have hq4:∀ x∈l.take (k+1),okM x=true:=by
    intro x hx
    rw[List.take_add_one,ho] at hx
    rcases List.mem_append.1 hx with hx|hx
    ·exact q4 x hx
    ·simp at hx;subst hx;exact hok
   obtain ⟨ok,oi,ot,oa⟩:=o
   generalize encM ⟨ok,oi,ot,oa⟩=W at *
   (try refine zI zk36 F M ?_;clear F M a;try clear w);(repeat'(first|refine zA ?_;repeat intro nb|refine zC ?_;(first|refine acW (k:=99) (he _) ?_;rintro u L' ⟨h2,rfl,rfl⟩|refine ac_appendH (f:=u8L) (xs:=bs) (ys:=W) rfl rfl inferInstance rfl rfl pullA inferInstance gsA rfl rfl (by omega) ?_;intro nv)|refine zB ?_ ?_<;>intro hc<;>try exact no hc|refine zH ?_ ?_<;>(intro hg;rw[hg];try exact no hg)));all_goals try refine zO fun a w F M=>?_
   exact sv_again F M ((k+1,nv,bs++W):Nat × SlH × List UInt8) kpA permsA ⟨by simp only;omega,hst.symm,q3,hq4⟩ (by simp only;omega)
 ·obtain rfl:k=l.length:=by omega
  rw[List.drop_length] at q3
  have q3:true=X:=q3
  subst q3
  rw[List.take_length] at q2
  subst q2
  (try refine zI zk36 F M ?_;clear F M a;try clear w);(repeat'(first|refine zA ?_;repeat intro nb|refine zB ?_ ?_<;>intro hc<;>try exact no hc|refine zH ?_ ?_<;>(intro hg;rw[hg];try exact no hg)));all_goals try refine zO fun a w F M=>?_
  all_goals refine zE F M ?_
  all_goals exact⟨_,_,rfl,⟨hh,encAll l,⟨rfl,rfl⟩,rfl⟩,M.perms permsA⟩
end
end
section
open Go.RowKit
section
variable {Q:Exit→Act→World→Prop} {n:Nat} {l:List (Nat × Value)} {L:List Asn}
theorem zDL {K:ZK} {id:Nat} {os pre:List Oper} {o:Oper} (E Fl:List Nat) (S:List (Nat × List Nat)) (σ:List Nat) (h:YK K (PW Tryz.prog pre.toArray n (QL os.toArray o Q) E Fl S σ [] l L)) (hl:lastL os=some (pre,o):=by exact rfl) (hok:drawOK pre.toArray E Fl S σ n=true:=by kernel_rfl) (hla:lastOK pre.toArray o=true:=by kernel_rfl) (hFl:FlOK Tryz.prog pre.toArray Fl:=by(first|(focus ((repeat (first|exact flok_nil|(apply flok_cons;(exact rfl);(exact rfl);(exact inferInstance);(exact rfl);(exact rfl))));done))|fail)):YK K (ZW n l L ((Code.region id os.toArray true).wp Tryz.prog Q)):=ZW.mk fun a w F M=>svDrawL E Fl S σ F M h hl hok hla hFl
theorem zQo {K:ZK} {ops:Array Oper} {o:Oper} (h:YK K (ZW n l L (wpList Tryz.prog ops Q [o]))):YK K (ZW n l L (QL ops o Q .normal)):=ZW.mk fun a w F M=>ql_open (ZW.h h a w F M)
end
section
variable {o:Oper} {n:Nat} {l:List (Nat × Value)} {L:List Asn} {C:Value→List Asn→Prop}
end
section
variable (b:Nat) (R:List Asn)
section
variable (cap dep pd bu:Int) (h:0≤pd∧0≤bu∧pd+bu≤dep∧dep≤18446744073709551615∧0≤cap∧cap≤1152921504606846976)
include h
end
section
variable (size:Nat) (fo vo:List Nat)
end
end
end
section
open Go.RowKit Go.Maps
section
variable {o:Oper} {n:Nat} {l:List (Nat × Value)} {L:List Asn} {C:Value→List Asn→Prop}
theorem ac_copyM {x y:Operand} {ats:Array TypeId} {t u:TypeId} (ho:o.op=.call {callee:=.builtin .copy,args:=#[x,y],argTypes:=ats}) (hat:ats = #[t,u]) {e:TypeId} {z:Value} {size bytes:Nat} (ht:ST t e z size bytes) {b j dl dc:Nat} (hx:evl l x=some (.slice (some ⟨b,j*size,none⟩) dl dc))
  {v:Value} (hy:evl l y=some v) {k:Nat} {cs:List Value} (hg:GS L size v k cs) (hone:∀ c∈cs,c.oneCell'=true) {k':Nat} {cs':List Value} (hk:Nat.min k dl=k') (hcs:cs.take (k'*size)=cs') {m cap:Nat} {xs:List Value} {L':List Asn} (hp:Pull L (own e size (sl ⟨some ⟨b,0,none⟩,m,cap⟩) m xs) L') (hj:j+dl≤m)
  (h:C (.int .i64 k') (own e size (sl ⟨some ⟨b,0,none⟩,m,cap⟩) m (xs.take (j*size)++cs'++xs.drop (j*size+cs'.length))::L')):AC o l L n C:=fun G a w F M=>by
 subst hat
 obtain ⟨i,hu,hi,hzi,hsz,hby,hzs,hpos⟩:=st_info ht
 have hs:=hg w M.drop_app
 have M1:=M.pull (hp.app G)
 obtain ⟨s,ho1,hlt⟩:=M1.head
 obtain ⟨hlen,h8|⟨g,cap',cur,h8,_,h3,h4,h5,h6,h7⟩⟩:=ho1
 ·simp[sl] at h8
 simp only[sl,Value.slice.injEq,Option.some.injEq,Addr.mk.injEq] at h8
 obtain ⟨⟨rfl,_⟩,_,rfl⟩:=h8
 have hk1:k'≤k:=by rw[← hk];exact Nat.min_le_left _ _
 have hk2:k'≤dl:=by rw[← hk];exact Nat.min_le_right _ _
 have hkk:k'*size≤k*size:=Nat.mul_le_mul_right _ hk1
 have hcl0:cs.length=k*size:=hs.1
 have hcl:cs'.length=k'*size:=by rw[← hcs,List.length_take];omega
 have hone':∀ c∈cs',c.oneCell'=true:=fun c hc=>hone c (List.mem_of_mem_take (hcs ▸ hc))
 have hle:j*size+k'*size≤m*size:=by rw[← Nat.add_mul];exact Nat.mul_le_mul_right _ (by omega)
 have hle2:m*size≤cap*size:=Nat.mul_le_mul_right _ h4
 have hst:=run_storeCells_at (P:=Tryz.prog) b (j*size) e cs' 0 cur w h3 (by rw[hcl];omega) hone'
 simp only[Nat.add_zero] at hst
 have hr:(Builtin.copy_ #[t,u] o.type #[.slice (some ⟨b,j*size,none⟩) dl dc,v]).run Tryz.prog w=.ok (.int .i64 k') (w.setRow b (cur.toList.take (j*size)++cs'++cur.toList.drop (j*size+cs'.length)).toArray):=by
  rcases hs.2 with⟨⟨a0,cp,rfl⟩,rfl⟩|⟨b2,off,cp,rfl,_,_,hc⟩
  ·have hk0:k'=0:=by omega
   subst hk0
   have hcs0:cs'=[]:=List.eq_nil_of_length_eq_zero (by rw[hcl];simp)
   subst hcs0
   cases a0 with
   | none=>simp[Builtin.copy_,run_underlying hu,Builtin.lenOf,Builtin.firstCells,sizeOf,typeInfo,hi,hst,goInt]
   | some a0 =>
    have hl:=run_loadCells_list (P:=Tryz.prog) w a0 [] (by simp)
    simp at hl
    simp[Builtin.copy_,run_underlying hu,Builtin.lenOf,Builtin.firstCells,sizeOf,typeInfo,hi,hst,goInt,hl]
  ·have hl:=run_loadCells_list (P:=Tryz.prog) w ⟨b2,off,none⟩ cs' (fun q c hq=>by
    rw[add0]
    refine hc q c ?_
    rw[← hcs,List.getElem?_take] at hq
    split at hq
    ·exact hq
    ·cases hq)
   rw[hcl] at hl
   simp[Builtin.copy_,run_underlying hu,Builtin.lenOf,Builtin.firstCells,sizeOf,typeInfo,hi,hsz,hk,hst,goInt,hl]
 have:(execOp a.eval o).run Tryz.prog w=.ok (.value (.int .i64 k')) (w.setRow b (cur.toList.take (j*size)++cs'++cur.toList.drop (j*size+cs'.length)).toArray):=by
  unfold execOp
  rw[ho]
  simp[resolve,invoke,builtin,F.eval hx,F.eval hy,hr]
 rw[this]
 refine⟨_,h,M1.change fun s' hs'=>?_⟩
 obtain ⟨_,h8|⟨g2,cap2,cur2,h8,rfl,_⟩⟩:=hs'.now
 ·simp[sl] at h8
 simp only[sl,Value.slice.injEq,Option.some.injEq,Addr.mk.injEq] at h8
 obtain ⟨⟨rfl,_⟩,_⟩:=h8
 have lc:cur.toList.length=cap*size:=by rw[Array.length_toList];exact h6
 refine⟨chg_setRow,[b],ok_own ?_ (setRow_heap w b cur _ e _ h3) h4 h5 ?_ ?_,fun x hx=>.inl hx⟩
 ·simp only[List.length_append,List.length_take,List.length_drop,hcl,hlen];omega
 ·simp only[List.size_toArray,List.length_append,List.length_take,List.length_drop,hcl,lc];omega
 ·simp only[List.toList_toArray]
  generalize hA:j*size=A at *
  generalize hB:k'*size=B at *
  generalize hN:m*size=N at *
  generalize hD:cap*size=D at *
  rw[← h7,List.take_take,Nat.min_eq_left (by omega),hcl,List.drop_take,List.take_append,List.take_append]
  have l1:(cur.toList.take A).length=A:=by rw[List.length_take];omega
  rw[List.take_of_length_le (l:=cur.toList.take A) (by omega),l1,List.take_of_length_le (l:=cs') (by omega),List.length_append,l1,hcl]
end
section
variable {o:Oper} {n:Nat} {l:List (Nat × Value)} {L:List Asn} {C:Value→List Asn→Prop}
theorem ac_copyMT {α:Type} {f:α→List Value} {x y:Operand} {ats:Array TypeId} {t u:TypeId} (ho:o.op=.call {callee:=.builtin .copy,args:=#[x,y],argTypes:=ats}) (hat:ats = #[t,u]) {e:TypeId} {z:Value} {size bytes:Nat} (ht:ST t e z size bytes) (he:EL f size) {b j dl dc:Nat} (hx:evl l x=some (.slice (some ⟨b,j*size,none⟩) dl dc))
  {v:Value} (hy:evl l y=some v) {ys:List α} {m:Nat} (hg:GS L size v m (ys.flatMap f)) (hm:m=ys.length) {k':Nat} (hk:Nat.min m dl=k') {cap:Nat} {xs:List α} {hd:SlH} {L':List Asn} (hp:Pull L (ownT e f size (sl hd) xs) L') (hh:hd=⟨some ⟨b,0,none⟩,xs.length,cap⟩) (hj:j+dl≤xs.length)
  (h:C (.int .i64 k') (ownT e f size (sl hd) (xs.take j++ys.take k'++xs.drop (j+k'))::L')):AC o l L n C:=by
 subst hh;subst hm
 have hk1:k'≤ys.length:=by rw[← hk];exact Nat.min_le_left _ _
 have hk2:k'≤dl:=by rw[← hk];exact Nat.min_le_right _ _
 have hyl:(ys.take k').length=k':=by rw[List.length_take];omega
 refine ac_copyM ho hat ht hx hy hg (flat_one ys) hk (flat_take he.len ys k') (m:=xs.length) (cap:=cap) hp hj ?_
 have hl:(xs.take j++ys.take k'++xs.drop (j+k')).length=xs.length:=by simp;omega
 unfold ownT at h
 rw[hl] at h
 have e1:(xs.flatMap f).take (j*size)++(ys.take k').flatMap f++(xs.flatMap f).drop (j*size+((ys.take k').flatMap f).length)=(xs.take j++ys.take k'++xs.drop (j+k')).flatMap f:=by
  rw[flat_lenE he,hyl,← Nat.add_mul,flat_take he.len,flat_drop he.len]
  simp
 rw[e1];exact h
theorem rt_fromC {t:TypeId} {x y:Operand} (ho:o.op=.slice t x (some y) none none) {b m c:Nat} (hx:evl l x=some (sl ⟨some ⟨b,0,none⟩,m,c⟩)) {k:IntKind} {j:Nat} (hy:evl l y=some (.int k (j:Int))) {e:TypeId} {z:Value} {size bytes:Nat} (ht:ST t e z size bytes) (h1:j≤m) (h2:j<c):RT o l L n (.slice (some ⟨b,j*size,none⟩) (m - j) (c - j)):=by
 have:=rt_from (L:=L) (n:=n) ho hx hy ht h1
 have e1:(sl (fromH ⟨some ⟨b,0,none⟩,m,c⟩ j size))=.slice (some ⟨b,j*size,none⟩) (m - j) (c - j):=by
  have:¬c=j:=by omega
  simp[sl,this,Addr.add]
  try(intro h;omega)
 rw[e1] at this
 exact this
theorem gs_toS {α:Type} {f:α→List Value} {k:Nat} {L':List Asn} {e:TypeId} {h:SlH} {xs:List α} (hp:Pull L (ownT e f k (sl h) xs) L') (he:EL f k) {j:Nat} (hj:j≤xs.length):GS L k (sl ⟨h.a,j,h.c⟩) j ((xs.take j).flatMap f):=fun w M=>by
 have:=((gs_own hp) w M).to hj
 rw[flat_take he.len] at this
 exact this
end
theorem mul1_spec (m:Nat) (hm:m<18446744073709551616) (R:List Asn):Spec 163 [.int .u64 1,.int .u64 (m:Int)] R fun u L'=>u=.tuple [.int .u64 0,.int .u64 (m:Int)].toArray∧L'=R:=fun G w M=>by
 have:=Tryz.bits_Mul 1 m (by decide) hm w
 have e1:1*m / 18446744073709551616=0:=by omega
 have e2:1*m % 18446744073709551616=m:=by omega
 rw[e1,e2] at this
 refine this.mono ?_
 rintro e w' ⟨rfl,rfl⟩
 exact⟨_,_,rfl,⟨rfl,rfl⟩,M⟩
def repL (o:Opn) (c m:Nat):List Opn:=List.replicate c o++List.replicate (m - c) (oz 0)
theorem repL_len {o:Opn} {c m:Nat} (h:c≤m):(repL o c m).length=m:=by simp[repL];omega
theorem repeat_spec (h:SlH) (o:Opn) (m:Nat) (hm:m≤1048576) (R:List Asn):Spec 100 [sl h,.int .i64 (m:Int)] (ownT 42 opL 4 (sl h) [o]::R) fun u L'=>∃ h,u=sl h∧L'=ownT 42 opL 4 (sl h) (List.replicate m o)::R:=by
 have hmu:=fun R=>mul1_spec m (by omega) R
 have c1:IntKind.u64.wrap 1=1:=by rw[IntKind.wrap_u64];rfl
 have c2:IntKind.u64.wrap (m:Int)=(m:Int):=by rw[IntKind.wrap_u64];omega
 have c3:IntKind.i64.wrap (m:Int)=(m:Int):=IntWalk.i64_in _ ⟨by omega,by omega⟩
 refine zGz zk100 Tryz.func100 ?_;intro G;(repeat'(first|refine zV (h:=⟨_,by((first|(apply rt_conv;(exact rfl);(exact rfl);(exact inferInstance);(exact inferInstance);(first|exact c1|exact c2|exact c3)))),?_⟩)|refine zA1 ?_;repeat intro(nb:Nat)|refine zC ?_;(first|refine kpW (k:=163) (hmu _) ?_|refine ac_makeT (f:=opL) inferInstance (oz 0) rfl rfl inferInstance rfl (m:=m) rfl rfl (by omega) (by omega) ?_;intro nm)|refine zB ?_ ?_<;>intro hc<;>try exact no hc|refine zH ?_ ?_<;>(intro hg;rw[hg];try exact no hg)));all_goals try refine zO fun a w F M=>?_
 (try refine zI zk100 F M ?_;clear F M a;try clear w);(repeat'(first|refine zA ?_;repeat intro nb|refine zC ?_;refine ac_copyMT (f:=opL) rfl rfl inferInstance inferInstance (b:=nm) (j:=0) (dl:=m) (dc:=m) rfl rfl (ys:=[o]) (k':=Nat.min 1 m) gsA rfl rfl (cap:=m) (xs:=List.replicate m (oz 0)) (hd:=⟨some ⟨nm,0,none⟩,m,m⟩) pullA (by simp) (by simp) ?_|refine zB ?_ ?_<;>intro hc<;>try exact no hc|refine zH ?_ ?_<;>(intro hg;rw[hg];try exact no hg)));all_goals try refine zO fun a w F M=>?_
 have e0:(List.replicate m (oz 0)).take 0++[o].take (Nat.min 1 m)++(List.replicate m (oz 0)).drop (0+Nat.min 1 m)=repL o (Nat.min 1 m) m:=by
  unfold repL
  cases m with
  | zero=>rfl
  | succ m=>rw[show Nat.min 1 (m+1)=1 from Nat.min_eq_left (by omega)];simp
 rw[e0] at M
 have hk0:Nat.min 1 m≤m∧(Nat.min 1 m=0→m=0):=by
  have:Nat.min 1 m=min 1 m:=rfl
  omega
 obtain ⟨k0,hk1⟩:∃ k0,Nat.min 1 m=k0:=⟨_,rfl⟩
 rw[hk1] at M hk0
 rw[hk1] at F
 refine svLoop F M k0 (fun c=>[(8,.int .i64 c)]) (fun c=>[ownT 42 opL 4 (sl ⟨some ⟨nm,0,none⟩,m,m⟩) (repL o c m)]) (fun c=>c≤m∧(c=0→m=0)) (fun c=>m - c) [] hk0 ?_ (hR:=by(repeat (first|exact Pulls.nil|(apply Pulls.cons;(focus ((repeat (first|exact Pull.here|apply Pull.there));done))))))
 (rintro c ⟨q1,q2⟩ a w F M;(try simp only[zc,zn] at F M q1 q2 ⊢))
 have hrl:=repL_len (o:=o) q1
 by_cases hcm:c<m
 ·obtain ⟨kk,hkk⟩:∃ kk,Nat.min c (m - c)=kk:=⟨_,rfl⟩
  have hk2:kk≤c∧kk≤m - c∧(0<c→0<kk):=by
   have:Nat.min c (m - c)=min c (m - c):=rfl
   omega
  have hstep:(repL o c m).take c++((repL o c m).take c).take kk++(repL o c m).drop (c+kk)=repL o (c+kk) m:=by
   unfold repL
   have e1:(List.replicate c o++List.replicate (m - c) (oz 0)).take c=List.replicate c o:=by
    rw[List.take_append_of_le_length (by simp)];simp
   have e2:(List.replicate c o++List.replicate (m - c) (oz 0)).drop (c+kk)=List.replicate (m - (c+kk)) (oz 0):=by
    rw[List.drop_append,List.drop_of_length_le (by simp)];simp;omega
   rw[e1,e2,List.take_replicate,Nat.min_eq_left hk2.1,List.replicate_append_replicate]
  have htl:((repL o c m).take c).length=c:=by rw[List.length_take];omega
  ((try(refine zI (⟨List.range 64,(zk100).d,[]⟩) F M ?_;clear F M a;(try clear w)));(repeat'(first|(refine zDL (id:=9) [7] [] [(7,[0])] [0,1,2,3,4,5,6,7,8] ?_)|with_reducible refine zQo ?_|(refine zV (h:=⟨_,by((first|(refine rt_fromC (b:=nm) (m:=m) (c:=m) (j:=c) (k:=.i64) rfl rfl rfl inferInstance q1 hcm)|(refine rt_to (h:=⟨some ⟨nm,0,none⟩,m,m⟩) (k:=.i64) (j:=c) rfl rfl rfl inferInstance q1))),?_⟩))|(refine zA1 ?_;(repeat intro(nb:Nat)))|((refine zC ?_);((refine ac_copyMT (f:=opL) rfl rfl inferInstance inferInstance (b:=nm) (j:=c) (dl:=m - c) (dc:=m - c) rfl rfl (ys:=(repL o c m).take c) (gs_toS pullA inferInstance (by omega)) htl.symm hkk (cap:=m) (xs:=repL o c m) (hd:=⟨some ⟨nm,0,none⟩,m,m⟩) pullA (by rw[hrl]) (by rw[hrl];omega) ?_)))|(refine zB ?_ ?_<;>intro hc<;>(try exact no hc))|(refine zH ?_ ?_<;>(intro hg;rw[hg];(try exact no hg)))));(all_goals(try refine zO fun a w F M=>?_)))
  rw[hstep] at M
  have e5:(c:Int)+(kk:Int)=((c+kk:Nat):Int):=by omega
  rw[e5] at F
  exact sv_again F M (c+kk) kpA permsA ⟨by omega,by omega⟩ (by omega)
 ·obtain rfl:c=m:=by omega
  have e6:repL o c c=List.replicate c o:=by simp[repL]
  rw[e6] at M
  rw[e6] at hrl
  (try refine zI zk100 F M ?_;clear F M a;try clear w);(repeat'(first|refine zA ?_;repeat intro nb|refine zB ?_ ?_<;>intro hc<;>try exact no hc|refine zH ?_ ?_<;>(intro hg;rw[hg];try exact no hg)));all_goals try refine zO fun a w F M=>?_
  all_goals refine zE F M ?_
  all_goals exact⟨_,_,rfl,⟨_,rfl,rfl⟩,M.perms permsA⟩
def tickO:Opn:=⟨7,0,0,0⟩
theorem ticks_spec (n:Int) (hn:n≤1048576) (R:List Asn):Spec 37 [.int .i64 n] R fun u L'=>∃ h,u=sl h∧L'=ownT 42 opL 4 (sl h) (List.replicate n.toNat tickO)::R:=by
 have hrp:=fun (h:SlH) R=>repeat_spec h tickO n.toNat (by omega) R
 have hmx:min (max n 0) 1048576=(n.toNat:Int):=by omega
 have e1:(if 0>n then 0 else n)=(n.toNat:Int):=by split<;>omega
 have e2:(if (1048576:Int)<(n.toNat:Int) then 1048576 else (n.toNat:Int))=(n.toNat:Int):=by split<;>omega
 refine zGz zk37 Tryz.func37 ?_;intro G;(repeat'(first|refine zV (h:=⟨_,by((first|(refine rt_max2 rfl rfl e1)|(refine rt_min2 rfl rfl e2))),?_⟩)|refine zA1 ?_;repeat intro(nb:Nat)|refine zC ?_;refine acK (L1:=ownT 42 opL 4 (sl ⟨some ⟨nb,0,none⟩,1,1⟩) [tickO]::_) (k:=100) (hrp _ _) ?_;rintro u L' ⟨h,rfl,rfl⟩|refine zB ?_ ?_<;>intro hc<;>try exact no hc|refine zH ?_ ?_<;>(intro hg;rw[hg];try exact no hg)));all_goals try refine zO fun a w F M=>?_
 all_goals refine zE F M ?_
 all_goals exact⟨_,_,rfl,⟨_,rfl,rfl⟩,M.perms permsA⟩
end
section
open Go.RowKit
def rnC (d:Cfg):Cfg:={d with epochLen:=1}
def rnO:List Opn:=[⟨1,0,0,20⟩,tickO,⟨2,0,0,0⟩]++List.replicate 4 tickO
theorem rn_ck:checkF (rnC Cfg.deflt)=0:=by kernel_rfl
theorem rn_cf:CfOk (rnC Cfg.deflt):=cfOk_of rn_ck (by decide) (by decide)
theorem rn_ok:rnO.all okM=true:=by kernel_rfl
theorem rn_r:∀ o∈rnO,OpR o:=fun o ho=>by
 simp only[rnO,tickO,List.replicate,zc,zn,List.mem_cons,List.not_mem_nil,or_false] at ho
 rcases ho with rfl|rfl|rfl|rfl|rfl|rfl|rfl<;>exact⟨⟨by decide,by decide⟩,⟨by decide,by decide⟩,⟨by decide,by decide⟩⟩
theorem rn_k:∀ o∈rnO,I64 o.k:=fun o ho=>by
 simp only[rnO,tickO,List.replicate,zc,zn,List.mem_cons,List.not_mem_nil,or_false] at ho
 rcases ho with rfl|rfl|rfl|rfl|rfl|rfl|rfl<;>exact⟨by decide,by decide⟩
theorem rn_dec:decAll (encAll rnO) 0=rnO:=by
 have:=dec_enc rnO [] rn_r fun o ho=>List.all_eq_true.1 rn_ok o ho
 simpa using this
theorem rn_pd:(runM (rnC Cfg.deflt) St.ini rnO).2.pd=20:=by kernel_rfl
theorem rn_ep:epo (rnC Cfg.deflt) (runM (rnC Cfg.deflt) St.ini rnO).2=5:=by kernel_rfl
theorem rn_len:(encAll rnO).length≤100000:=by
 have:=encAll_le rnO fun o ho=>List.all_eq_true.1 rn_ok o ho
 have e:rnO.length=7:=rfl
 omega
theorem runs_spec (R:List Asn):Spec 9 [] R fun u L'=>u=.bool true∧L'=R:=by
 have hdf:=fun R=>default_spec R
 have htk:=fun R=>ticks_spec 4 (by decide) R
 have hen:=fun v R hg=>senc_spec v rnO R hg (by decide) fun o ho=>⟨rn_k o ho,rn_r o ho⟩
 have hrr:=fun h R hg=>rrun_spec (rnC Cfg.deflt) rn_cf rn_ck h (encAll rnO) rn_len (by rw[rn_dec];decide) (by rw[rn_dec];exact fun o ho=>⟨rn_k o ho,(rn_r o ho).2.2⟩) R hg
 simp only[rn_ok,if_true] at hen
 simp only[rn_dec] at hrr
 have f1:=rn_pd;have f2:=rn_ep
 have f3:(runM (rnC Cfg.deflt) St.ini rnO).1.length=7:=by rw[runM_len];rfl
 generalize runM (rnC Cfg.deflt) St.ini rnO=X at *
 obtain ⟨xr,s0⟩:=X
 simp only at f1 f2 f3 hrr
 have hlo:rnO.length=7:=rfl
 have hrn:[⟨1,0,0,20⟩,tickO,⟨2,0,0,0⟩]++List.replicate 4 tickO=rnO:=rfl
 generalize encAll rnO=E at *
 generalize Cfg.deflt=d at *
 refine zGz zk9 Tryz.func9 ?_;intro G;(repeat'(first|refine zA ?_;repeat intro nb|refine zC ?_;(first|refine kpW (k:=35) (hdf _) ?_|refine acW (k:=37) (htk _) ?_;rintro u L' ⟨th,rfl,rfl⟩|refine ac_appendH (f:=opL) (xs:=[⟨1,0,0,20⟩,tickO,⟨2,0,0,0⟩]) (ys:=List.replicate 4 tickO) rfl rfl inferInstance rfl rfl pullA inferInstance (gs_own pullA) rfl rfl (by decide) ?_;intro nv|refine acW (k:=36) (hen _ _ ?_) ?_;exact gs_own pullA;rintro u L' ⟨he,bs,⟨rfl,rfl⟩,rfl⟩)|refine zB ?_ ?_<;>intro hc<;>try exact no hc|refine zH ?_ ?_<;>(intro hg;rw[hg];try exact no hg)));all_goals try refine zO fun a w F M=>?_
 have gb:=bg_own M pullA
 (try refine zI zk9 F M ?_;clear F M a;try clear w);(repeat'(first|refine zA ?_;repeat intro nb|refine zC ?_;refine acW (k:=38) (hrr he _ ?_) ?_;(focus ((repeat (first|assumption|apply BG.tail));done));rintro u L' ⟨s,h0,xs,h1,h2,h3,h4,h5,h6,rfl,hx,rfl,rfl⟩|refine zB ?_ ?_<;>intro hc<;>try exact no hc|refine zH ?_ ?_<;>(intro hg;rw[hg];try exact no hg)));all_goals try refine zO fun a w F M=>?_
 have hxl:xs.length=7:=by rw[← f3,← hx,List.length_map]
 all_goals refine zE F M ?_
 all_goals exact⟨_,_,rfl,⟨by simp[tupOf,hxl],rfl⟩,M.perms permsA⟩
end
section
open Go.RowKit Go.Maps
instance mtRec:MT 130 3 129:=⟨by kernel_rfl,int_keyed (q:=.i64) (by kernel_rfl)⟩
instance zvRec:ZV 129 (.pointer none):=⟨by kernel_rfl⟩
structure Ex where
  cl:Int
  rq:Int
  dl:Int
  asg:Int
  sl:Int
  pd:Int
  am:Int
deriving DecidableEq
def exL (x:Ex):List Value:=[.int .i64 x.cl,.int .i64 x.rq,.int .i64 x.dl,.int .i64 x.asg,.int .i64 x.sl,.int .i64 x.pd,.int .u64 x.am]
structure Rd where
  ex:Ex
  rd:Bool
  pays:List Pm
  asd:Bool
  sld:Bool
  fu:Bool
deriving DecidableEq
def r0:Rd:=⟨⟨0,0,0,-1,-1,-1,0⟩,false,[],false,false,false⟩
def recL (r:Rd) (h:SlH):List Value:=[.int .i64 r.ex.cl,.int .i64 r.ex.rq,.int .i64 r.ex.dl,.int .i64 r.ex.asg,.int .i64 r.ex.sl,.int .i64 r.ex.pd,.int .u64 r.ex.am,.bool r.rd,sl h,.bool r.asd,.bool r.sld,.bool r.fu]
abbrev recP (b:Nat) (r:Rd) (h:SlH):List Asn:=[pt b (recL r h) 136,ownT 57 pmL 3 (sl h) r.pays]
def recA (b:Nat) (r:Rd):Asn:=exA (recP b r)
abbrev AL:=List (Int × Nat × Rd)
def ptrs (al:AL):List (Value × Value):=al.map fun x=>(.int .i64 x.1,ptr x.2.1)
def recsA (al:AL):List Asn:=al.map fun x=>recA x.2.1 x.2.2
def restA (al:AL):Asn:=exA fun _:Unit=>recsA al
def abs (al:AL):List (Int × Rd):=al.map fun x=>(x.1,x.2.2)
def getR (i:Int):List (Int × Rd)→Rd
  | []=>r0
  | (j,r)::t=>if j=i then r else getR i t
def setR (i:Int) (r:Rd):List (Int × Rd)→List (Int × Rd)
  | []=>[(i,r)]
  | (j,q)::t=>if j=i then (j,r)::t else (j,q)::setR i r t
theorem abs_split (i:Int):∀ (al:AL),(∃ l1 b l2,al=l1++(i,b,getR i (abs al))::l2∧∀ r',abs (l1++(i,b,r')::l2)=setR i r' (abs al))∨((∀ x∈al,x.1≠i)∧getR i (abs al)=r0∧∀ b r',abs (al++[(i,b,r')])=setR i r' (abs al))
  | []=>.inr ⟨by simp,rfl,fun b r'=>rfl⟩
  | (j,b,r)::t=>by
    by_cases h:j=i
    · subst h
      exact .inl ⟨[],b,t,by simp[abs,getR],fun r'=>by simp[abs,setR]⟩
    · rcases abs_split i t with⟨l1,c,l2,h1,h2⟩|⟨h1,h2,h3⟩
      · refine .inl ⟨(j,b,r)::l1,c,l2,?_,fun r'=>?_⟩
        · have:getR i (abs ((j,b,r)::t))=getR i (abs t):=by simp[abs,getR,h]
          rw[this,zc,← h1]
        · have e:=h2 r'
          simp only[abs,zc,List.map_cons,setR,h,if_false] at e ⊢
          rw[e]
      · refine .inr ⟨fun x hx=>?_,by simpa[abs,getR,h] using h2,fun c r'=>?_⟩
        · rcases List.mem_cons.1 hx with rfl|hx
          · exact h
          · exact h1 x hx
        · have e:=h3 c r'
          simp only[abs,zc,List.map_cons,setR,h,if_false] at e ⊢
          rw[e]
theorem ptrs_last (al:AL) (i:Int) (b:Nat) (r:Rd):(Value.int .i64 i,ptr b)∈ptrs (al++[(i,b,r)]):=by simp[ptrs]
theorem ptrs_set (l1 l2:AL) (i:Int) (b:Nat) (r r':Rd):ptrs (l1++(i,b,r)::l2)=ptrs (l1++(i,b,r')::l2):=by simp[ptrs]
section
variable {w:World} {L:List Asn}
theorem rest_open {l1 l2:AL} {x:Int × Nat × Rd} (M:Mem w (restA (l1++x::l2)::L)):Mem w (recA x.2.1 x.2.2::restA (l1++l2)::L):=by
  obtain ⟨_,M⟩:=M.exo
  simp only[recsA,List.map_append,List.map_cons,List.append_assoc,zc] at M
  have M:=M.front
  rw[← List.append_assoc,← List.map_append] at M
  exact(Mem.exc (f:=fun _:Unit=>recsA (l1++l2)) () (L:=recA x.2.1 x.2.2::L) M.back).swap
theorem rest_close {l1 l2:AL} {x:Int × Nat × Rd} (M:Mem w (recA x.2.1 x.2.2::restA (l1++l2)::L)):Mem w (restA (l1++x::l2)::L):=by
  obtain ⟨_,M⟩:=M.swap.exo
  have M:=M.front
  rw[recsA,List.map_append,List.append_assoc] at M
  have M:=M.back
  refine Mem.exc (f:=fun _:Unit=>recsA (l1++x::l2)) () ?_
  simp only[recsA,List.map_append,List.map_cons,List.append_assoc,zc]
  exact M
theorem rest_nil (M:Mem w L):Mem w (restA []::L):=Mem.exc (f:=fun _:Unit=>recsA []) () M
end
theorem of_spec (b m:Nat) (t:TypeId) (cs:List Value) (i:Int) (hi:I64 i) (al:AL):Spec 104 [ptr b,.int .i64 i] [pt b (.map (some m)::cs) t,mp m 3 (ptrs al),restA al]
    fun u L'=>∃ l1 br l2 h,u=ptr br∧(∀ r',abs (l1++(i,br,r')::l2)=setR i r' (abs al))∧L'=[pt b (.map (some m)::cs) t,mp m 3 (ptrs (l1++(i,br,r0)::l2)),pt br (recL (getR i (abs al)) h) 136,ownT 57 pmL 3 (sl h) (getR i (abs al)).pays,restA (l1++l2)]:=by
  (intro G w M;refine sx_enter (vs:=[ptr b,.int .i64 i]) Tryz.func104 (n:=26) rfl rfl rfl rfl ?_;intro a F;(try simp only[zc,zn] at M))
  rcases abs_split i al with⟨l1,br,l2,h1,h2⟩|⟨h1,h2,h3⟩
  · have hin:(Value.int .i64 i,ptr br)∈ptrs al:=by rw[h1];simp[ptrs]
    (try refine zI zk104 F M ?_;clear F M a;try clear w);(repeat'(first|refine zA ?_;repeat intro b|refine zV (h:=⟨_,by(first|(apply rt_hit1;(exact rfl);(exact rfl);(exact rfl);(exact inferInstance);(exact gives_mp pullA);(exact intKey hi);(first|assumption|exact ptrs_last _ _ _ _))|(apply rt_miss1;(exact rfl);(exact rfl);(exact rfl);(exact inferInstance);(exact gives_mp pullA);(exact intKey hi);(assumption);(exact inferInstance))|(apply rt_nilp;(exact rfl);(exact rfl);(exact rfl);(exact inferInstance))),?_⟩)|refine zB ?_ ?_<;>intro hc<;>try exact no hc|refine zH ?_ ?_<;>(intro hg;rw[hg];try exact no hg)));all_goals try refine zO fun a w F M=>?_
    all_goals(first|(refine svEnd F M ?_)|(refine svRet F M ?_))
    have M:=M.perms (permsA:Perms _ (restA al::pt b (.map (some m)::cs) t::mp m 3 (ptrs al)::G))
    rw[h1] at M
    obtain ⟨h,M⟩:=(rest_open M).exo
    refine⟨_,_,rfl,⟨l1,br,l2,h,rfl,h2,rfl⟩,?_⟩
    rw[ptrs_set l1 l2 i br r0 (getR i (abs al))]
    try simp only[zc,zn] at M ⊢
    simp only[← h1] at M ⊢
    exact M.perms permsA
  · have hno:∀ p∈ptrs al,p.1≠.int .i64 i:=fun p hp=>by
      obtain ⟨x,hx,rfl⟩:=List.mem_map.1 hp
      have:=h1 x hx
      simpa using this
    (try refine zI zk104 F M ?_;clear F M a;try clear w);(repeat'(first|refine zA ?_;repeat intro b|refine zC ?_;refine ac_mapNew (P':=ptrs (al++[(i,_,r0)])) rfl rfl rfl rfl inferInstance (intKey hi) (by(repeat (first|exact Rep.here|apply Rep.there))) hno (by simpa[ptrs] using (List.perm_append_singleton _ _).symm) ?_|refine zV (h:=⟨_,by(first|(apply rt_hit1;(exact rfl);(exact rfl);(exact rfl);(exact inferInstance);(exact gives_mp pullA);(exact intKey hi);(first|assumption|exact ptrs_last _ _ _ _))|(apply rt_miss1;(exact rfl);(exact rfl);(exact rfl);(exact inferInstance);(exact gives_mp pullA);(exact intKey hi);(assumption);(exact inferInstance))|(apply rt_nilp;(exact rfl);(exact rfl);(exact rfl);(exact inferInstance))),?_⟩)|refine zB ?_ ?_<;>intro hc<;>try exact no hc|refine zH ?_ ?_<;>(intro hg;rw[hg];try exact no hg)));all_goals try refine zO fun a w F M=>?_
    all_goals(first|(refine svEnd F M ?_)|(refine svRet F M ?_))
    replace M:=rest_nil (M.own_nil 57 3)
    refine⟨_,_,rfl,⟨al,b,[],⟨none,0,0⟩,rfl,h3 _,rfl⟩,?_⟩
    rw[h2,List.append_nil]
    simp only[zc,zn]
    exact M.perms permsA
theorem rec_close {w:World} {L:List Asn} {l1 l2:AL} {i:Int} {br:Nat} {r:Rd} {h:SlH} (M:Mem w (pt br (recL r h) 136::ownT 57 pmL 3 (sl h) r.pays::restA (l1++l2)::L)):Mem w (restA (l1++(i,br,r)::l2)::L) :=
  rest_close (x:=(i,br,r)) (Mem.exc (f:=recP br r) h M)
def beginR (cl ep dl:Int) (r:Rd):Rd:=if r.rd=true then r else {r with rd:=true,ex:={r.ex with cl:=cl,rq:=ep,dl:=dl}}
def beginO (i:Int) (r:Rd) (o:List Int):List Int:=if r.rd=true then o else o++[i]
theorem begin_spec (b m:Nat) (v2 v3 v4:Value) (i cl:Int) (hi:I64 i) (al:AL) (o:List Int) (ord:SlH) (x:Rc) (s p:SlH) (hb:o.length≤5000000) :
    Spec 106 [ptr b,.int .i64 i,.int .i64 cl,rcV x s p] [pt b [.map (some m),sl ord,v2,v3,v4] 134,mp m 3 (ptrs al),ownT 3 intL 1 (sl ord) o,restA al]
    fun u L'=>u=.tuple #[]∧∃ al' ord',abs al'=setR i (beginR cl x.ep x.dl (getR i (abs al))) (abs al)∧L'=[pt b [.map (some m),sl ord',v2,v3,v4] 134,mp m 3 (ptrs al'),ownT 3 intL 1 (sl ord') (beginO i (getR i (abs al)) o),restA al']:=by
  (intro G w M;refine sx_enter (vs:=[ptr b,.int .i64 i,.int .i64 cl,rcV x s p]) Tryz.func106 (n:=46) rfl rfl rfl rfl ?_;intro a F;(try simp only[zc,zn] at M))
  obtain ⟨r,hr⟩:∃ r,getR i (abs al)=r:=⟨_,rfl⟩
  have hof:=of_spec b m 134 [sl ord,v2,v3,v4] i hi al
  rw[hr] at hof ⊢
  obtain ⟨⟨e1,e2,e3,e4,e5,e6,e7⟩,rd,ps,ra,rs,rf⟩:=r
  cases rd
  all_goals((try refine zI zk106 F M ?_;clear F M a;try clear w);(repeat'(first|refine zA ?_;repeat intro b|refine zC ?_;(first|refine acCall (k:=104) ?_;refine Spec.mono (Spec.pre (Spec.fr hof _) (by simp only[zc,zn];exact permsA)) ?_;rintro u L' ⟨L2,⟨l1,br,l2,h,rfl,hs,rfl⟩,rfl⟩;simp only[zc,zn]|refine ac_appendH (f:=intL) (xs:=o) (ys:=[i]) rfl rfl inferInstance rfl rfl (by(focus ((repeat (first|exact Pull.here|apply Pull.there));done))) inferInstance (gs_own (by(focus ((repeat (first|exact Pull.here|apply Pull.there));done)))) rfl rfl (by simp;omega) ?_;intro v')|refine zB ?_ ?_<;>intro hc<;>try exact no hc|refine zH ?_ ?_<;>(intro hg;rw[hg];try exact no hg)));all_goals try refine zO fun a w F M=>?_)
  · (first|(refine svEnd F M ?_)|(refine svRet F M ?_))
    have M:=rec_close (i:=i) (M.perms (permsA:Perms _ (pt br (recL ⟨⟨cl,x.ep,x.dl,e4,e5,e6,e7⟩,true,ps,ra,rs,rf⟩ h) 136::ownT 57 pmL 3 (sl h) ps::restA (l1++l2)::pt _ [.map (some m),sl v',v2,v3,v4] 134::mp m 3 (ptrs (l1++(i,br,r0)::l2))::ownT 3 intL 1 (sl v') (o++[i])::G)))
    rw[ptrs_set l1 l2 i br r0 ⟨⟨cl,x.ep,x.dl,e4,e5,e6,e7⟩,true,ps,ra,rs,rf⟩] at M
    exact⟨_,_,rfl,⟨rfl,_,v',hs _,rfl⟩,M.perms permsA⟩
  · (first|(refine svEnd F M ?_)|(refine svRet F M ?_))
    have M:=rec_close (i:=i) (M.perms (permsA:Perms _ (pt br (recL ⟨⟨e1,e2,e3,e4,e5,e6,e7⟩,true,ps,ra,rs,rf⟩ h) 136::ownT 57 pmL 3 (sl h) ps::restA (l1++l2)::pt _ [.map (some m),sl ord,v2,v3,v4] 134::mp m 3 (ptrs (l1++(i,br,r0)::l2))::ownT 3 intL 1 (sl ord) o::G)))
    rw[ptrs_set l1 l2 i br r0 ⟨⟨e1,e2,e3,e4,e5,e6,e7⟩,true,ps,ra,rs,rf⟩] at M
    exact⟨_,_,rfl,⟨rfl,_,ord,hs _,rfl⟩,M.perms permsA⟩
def hPayR (p:Pm) (ep:Int) (r:Rd):Rd:=if p.fl=true∧r.fu=false then {r with pays:=r.pays++[p],fu:=true,ex:={r.ex with pd:=ep,am:=p.am}} else {r with pays:=r.pays++[p]}
theorem hpay_spec (b m:Nat) (t:TypeId) (cs:List Value) (q:Pm) (ep:Int) (hi:I64 q.ix) (al:AL) (hb:(getR q.ix (abs al)).pays.length≤5000000) :
    Spec 105 [ptr b,.agg (pmL q).toArray,.int .i64 ep] [pt b (.map (some m)::cs) t,mp m 3 (ptrs al),restA al]
    fun u L'=>u=.tuple #[]∧∃ al',abs al'=setR q.ix (hPayR q ep (getR q.ix (abs al))) (abs al)∧L'=[pt b (.map (some m)::cs) t,mp m 3 (ptrs al'),restA al']:=by
  (intro G w M;refine sx_enter (vs:=[ptr b,.agg (pmL q).toArray,.int .i64 ep]) Tryz.func105 (n:=44) rfl rfl rfl rfl ?_;intro a F;(try simp only[zc,zn] at M))
  obtain ⟨r,hr⟩:∃ r,getR q.ix (abs al)=r:=⟨_,rfl⟩
  have hof:=of_spec b m t cs q.ix hi al
  rw[hr] at hof hb ⊢
  obtain ⟨⟨e1,e2,e3,e4,e5,e6,e7⟩,rd,ps,ra,rs,rf⟩:=r
  obtain ⟨i,am,fl⟩:=q
  try simp only at hof hb hr hi ⊢
  cases fl<;>cases rf
  all_goals((try refine zI zk105 F M ?_;clear F M a;try clear w);(repeat'(first|refine zA ?_;repeat intro b|refine zC ?_;(first|refine acCall (k:=104) ?_;refine Spec.mono (Spec.pre (Spec.fr hof _) (by simp only[zc,zn];exact permsA)) ?_;rintro u L' ⟨L2,⟨l1,br,l2,h,rfl,hs,rfl⟩,rfl⟩;simp only[zc,zn]|refine ac_appendH (f:=pmL) (xs:=ps) (ys:=[⟨i,am,_⟩]) rfl rfl inferInstance rfl rfl (by(focus ((repeat (first|exact Pull.here|apply Pull.there));done))) inferInstance (gs_own (by(focus ((repeat (first|exact Pull.here|apply Pull.there));done)))) rfl rfl (by simp;omega) ?_;intro v')|refine zB ?_ ?_<;>intro hc<;>try exact no hc|refine zH ?_ ?_<;>(intro hg;rw[hg];try exact no hg)));all_goals try refine zO fun a w F M=>?_)
  all_goals(first|(refine svEnd F M ?_)|(refine svRet F M ?_))
  all_goals first
    | (have M:=rec_close (i:=i) (M.perms (permsA:Perms _ (pt br (recL ⟨⟨e1,e2,e3,e4,e5,e6,e7⟩,rd,ps++[_],ra,rs,_⟩ v') 136::ownT 57 pmL 3 (sl v') (ps++[_])::restA (l1++l2)::pt _ (.map (some m)::cs) t::mp m 3 (ptrs (l1++(i,br,r0)::l2))::G)))
       rw[ptrs_set l1 l2 i br r0 _] at M
       exact⟨_,_,rfl,⟨rfl,_,hs _,rfl⟩,M.perms permsA⟩)
    | (have M:=rec_close (i:=i) (M.perms (permsA:Perms _ (pt br (recL ⟨⟨e1,e2,e3,e4,e5,ep,am⟩,rd,ps++[_],ra,rs,true⟩ v') 136::ownT 57 pmL 3 (sl v') (ps++[_])::restA (l1++l2)::pt _ (.map (some m)::cs) t::mp m 3 (ptrs (l1++(i,br,r0)::l2))::G)))
       rw[ptrs_set l1 l2 i br r0 _] at M
       exact⟨_,_,rfl,⟨rfl,_,hs _,rfl⟩,M.perms permsA⟩)
end
section
open Go.RowKit Go.Maps
structure HS where
  recs:List (Int × Rd)
  ord:List Int
  n:Int
  ep:Int
  asg:List Asg
deriving DecidableEq
structure Hh where
  m:Nat
  o:SlH
  a:SlH
  al:AL
abbrev logL (b:Nat) (q:HS) (h:Hh):List Asn:=[factA (abs h.al=q.recs),pt b [.map (some h.m),sl h.o,.int .i64 q.n,.int .i64 q.ep,sl h.a] 134,mp h.m 3 (ptrs h.al),ownT 3 intL 1 (sl h.o) q.ord,ownT 75 asgL 3 (sl h.a) q.asg,restA h.al]
def logA (b:Nat) (q:HS):Asn:=exA (logL b q)
def hAsg (y:Asg) (r:Rd):Rd:=if r.rd=true∧r.asd=false then {r with asd:=true,ex:={r.ex with asg:=y.ep}} else r
def slashR (ep:Int) (r:Rd):Rd:=if r.sld=true then r else {r with sld:=true,ex:={r.ex with sl:=ep}}
def addA (q:HS) (y:Asg):HS:={q with recs:=setR y.ix (hAsg y (getR y.ix q.recs)) q.recs,asg:=q.asg++[y]}
def addP (ep:Int) (q:HS) (y:Pm):HS:={q with recs:=setR y.ix (hPayR y ep (getR y.ix q.recs)) q.recs}
def addB (cl:Int) (x:Rc) (q:HS):HS:={q with recs:=setR x.ix (beginR cl x.ep x.dl (getR x.ix q.recs)) q.recs,ord:=beginO x.ix (getR x.ix q.recs) q.ord}
def addS (x:Rc) (q:HS):HS:={q with recs:=setR x.ix (slashR x.ep (getR x.ix q.recs)) q.recs}
def hAdd (k:Int) (x:Rc) (q:HS):HS :=
  if x.c≠0 then {q with n:=q.n+1}
  else
    let q3:=x.pms.foldl (addP x.ep) (x.asg.foldl addA {q with n:=q.n+1,ep:=x.ep})
    if k=2 then addB 1 x q3 else if k=4 then addB 0 x (addS x q3) else if k=3 then addB 0 x q3 else q3
structure HS.le (q:HS) (N:Nat):Prop where
  o:q.ord.length≤N
  a:q.asg.length≤N
  p:∀ i,(getR i q.recs).pays.length≤N
theorem getR_set (i j:Int) (r:Rd):∀ l:List (Int × Rd),getR i (setR j r l)=if j=i then r else getR i l
  | []=>by simp[setR,getR]
  | (k,u)::t=>by
    by_cases h:k=j
    · subst h
      by_cases h2:k=i
      · subst h2;simp[setR,getR]
      · simp[setR,getR,h2]
    · simp only[setR,h,if_false,getR]
      by_cases h2:k=i
      · subst h2;simp[Ne.symm h]
      · simp only[h2,if_false];exact getR_set i j r t
theorem le_addA {q:HS} {N:Nat} (h:q.le N) (y:Asg):(addA q y).le (N+1):=⟨by have:=h.o;simp only[addA];omega,by have:=h.a;simp[addA];omega,fun i=>by
  simp only[addA]
  rw[getR_set]
  split
  · unfold hAsg
    have:=h.p y.ix
    split<;>(try simp only)<;>omega
  · have:=h.p i;omega⟩
theorem le_addP {q:HS} {N:Nat} (h:q.le N) (ep:Int) (y:Pm):(addP ep q y).le (N+1):=⟨by have:=h.o;simp only[addP];omega,by have:=h.a;simp only[addP];omega,fun i=>by
  simp only[addP]
  rw[getR_set]
  split
  · unfold hPayR
    have:=h.p y.ix
    split<;>(simp;omega)
  · have:=h.p i;omega⟩
theorem le_addB {q:HS} {N:Nat} (h:q.le N) (cl:Int) (x:Rc):(addB cl x q).le (N+1):=⟨by have:=h.o;simp only[addB,beginO];split<;>(simp;omega),by have:=h.a;simp only[addB];omega,fun i=>by
  simp only[addB]
  rw[getR_set]
  split
  · unfold beginR
    have:=h.p x.ix
    split<;>(try simp only)<;>omega
  · have:=h.p i;omega⟩
theorem le_addS {q:HS} {N:Nat} (h:q.le N) (x:Rc):(addS x q).le N:=⟨h.o,h.a,fun i=>by
  simp only[addS]
  rw[getR_set]
  split
  · unfold slashR
    have:=h.p x.ix
    split<;>(try simp only)<;>omega
  · exact h.p i⟩
theorem le_foldA:∀ (l:List Asg) {q:HS} {N:Nat},q.le N→(l.foldl addA q).le (N+l.length)
  | [],q,N,h=>h
  | y::l,q,N,h=>by
    have:=le_foldA l (le_addA h y)
    rw[List.foldl_cons,List.length_cons,Nat.add_comm l.length 1,← Nat.add_assoc];exact this
theorem le_foldP (ep:Int):∀ (l:List Pm) {q:HS} {N:Nat},q.le N→(l.foldl (addP ep) q).le (N+l.length)
  | [],q,N,h=>h
  | y::l,q,N,h=>by
    have:=le_foldP ep l (le_addP h ep y)
    rw[List.foldl_cons,List.length_cons,Nat.add_comm l.length 1,← Nat.add_assoc];exact this
theorem HS.le.mono {q:HS} {N K:Nat} (h:q.le N) (hk:N≤K):q.le K:=⟨Nat.le_trans h.o hk,Nat.le_trans h.a hk,fun i=>Nat.le_trans (h.p i) hk⟩
theorem le_hAdd {k:Int} {x:Rc} {q:HS} {N:Nat} (h:q.le N):(hAdd k x q).le (N+x.asg.length+x.pms.length+1):=by
  unfold hAdd
  split
  · exact HS.le.mono (q:={q with n:=q.n+1}) ⟨h.o,h.a,h.p⟩ (by omega)
  · have h1:HS.le {q with n:=q.n+1,ep:=x.ep} N:=⟨h.o,h.a,h.p⟩
    have h2:=le_foldP x.ep x.pms (le_foldA x.asg h1)
    simp only
    split
    · exact le_addB h2 _ _
    · split
      · exact le_addB (le_addS h2 _) _ _
      · split
        · exact le_addB h2 _ _
        · exact h2.mono (by omega)
theorem foldl_take {α β:Type} (f:β→α→β) (z:β) {l:List α} {k:Nat} {y:α} (h:l[k]? = some y):(l.take (k+1)).foldl f z=f ((l.take k).foldl f z) y:=by
  rw[List.take_add_one,h];simp
theorem foldA_keep:∀ (l:List Asg) (q:HS),(l.foldl addA q).ord=q.ord∧(l.foldl addA q).n=q.n∧(l.foldl addA q).ep=q.ep
  | [],q=>⟨rfl,rfl,rfl⟩
  | y::l,q=>foldA_keep l (addA q y)
theorem foldP_keep (ep:Int):∀ (l:List Pm) (q:HS),(l.foldl (addP ep) q).ord=q.ord∧(l.foldl (addP ep) q).n=q.n∧(l.foldl (addP ep) q).ep=q.ep∧(l.foldl (addP ep) q).asg=q.asg
  | [],q=>⟨rfl,rfl,rfl,rfl⟩
  | y::l,q=>foldP_keep ep l (addP ep q y)
theorem log_close {w:World} {L:List Asn} {lb m:Nat} {o' a':SlH} {n ep:Int} {ord:List Int} {asg:List Asg} {al:AL} (M:Mem w (pt lb [.map (some m),sl o',.int .i64 n,.int .i64 ep,sl a'] 134::mp m 3 (ptrs al)::ownT 3 intL 1 (sl o') ord::ownT 75 asgL 3 (sl a') asg::restA al::L)) {q:HS} (hq:q=⟨abs al,ord,n,ep,asg⟩):Mem w (logA lb q::L):=by
  subst hq
  exact Mem.exc (f:=logL lb ⟨abs al,ord,n,ep,asg⟩) ⟨m,o',a',al⟩ (M.fact rfl)
theorem add_spec (lb:Nat) (q:HS) (k:Opn) (x:Rc) (s p:SlH) (R:List Asn) (hw:x.wf) (hg:RcG R x s p) (hn:0≤q.n∧q.n≤1000000) (hl:q.le 4000000) (h60:x.asg.length≤4096∧x.pms.length≤4096) :
    Spec 40 [ptr lb,.agg (opL k).toArray,rcV x s p] (logA lb q::R) fun u L'=>u=.tuple #[]∧L'=logA lb (hAdd k.k x q)::R:=by
  intro G w M
  obtain ⟨⟨m,ord,ash,al⟩,M⟩:=(show Mem w (logA lb q::(R++G)) from M).exo
  simp only[zc,zn] at M
  obtain ⟨hal,M⟩:=M.factO
  have g1:GS (R++G) 3 (sl s) x.asg.length (x.asg.flatMap asgL):=hg.a.imp fun w M=>M.drop_app
  have g2:GS (R++G) 3 (sl p) x.pms.length (x.pms.flatMap pmL):=hg.p.imp fun w M=>M.drop_app
  obtain ⟨hn1,hn2⟩:=hn
  obtain ⟨h60a,h60p⟩:=h60
  refine sx_enter (vs:=([ptr lb,.agg (opL k).toArray,rcV x s p]:List Value)) Tryz.func40 (n:=130) rfl rfl rfl rfl ?_
  intro a F
  by_cases hc0:x.c=0
  · (try refine zI zk40 F M ?_;clear F M a;try clear w);(repeat'(first|refine zA ?_;repeat intro b|refine zB ?_ ?_<;>intro hc<;>try exact no hc|refine zH ?_ ?_<;>(intro hg;rw[hg];try exact no hg)));all_goals try refine zO fun a w F M=>?_
    have hwa:=hw.asg
    have hwp:=hw.pms
    obtain ⟨q1,hq1⟩:∃ q1:HS,q1={q with n:=q.n+1,ep:=x.ep}:=⟨_,rfl⟩
    have hl1:q1.le 4000000:=by rw[hq1];exact⟨hl.o,hl.a,hl.p⟩
    refine svLoop F M ((0,al,ash):Nat × AL × SlH) (fun z=>[(32,.int .i64 z.1)]) (fun z=>[pt lb [.map (some m),sl ord,.int .i64 (q.n+1),.int .i64 x.ep,sl z.2.2] 134,mp m 3 (ptrs z.2.1),ownT 75 asgL 3 (sl z.2.2) ((x.asg.take z.1).foldl addA q1).asg,restA z.2.1])
      (fun z=>z.1≤x.asg.length∧abs z.2.1=((x.asg.take z.1).foldl addA q1).recs) (fun z=>x.asg.length - z.1) [] ⟨by simp,by rw[hq1];exact hal⟩ ?_ (hR:=by rw[hq1];(repeat (first|exact Pulls.nil|(apply Pulls.cons;(focus ((repeat (first|exact Pull.here|apply Pull.there));done))))))
    (rintro⟨j,al1,ash1⟩ ⟨z1,z2⟩ a w F M;(try simp only[zc,zn] at F M z1 z2 ⊢))
    by_cases hlt:j<x.asg.length
    · obtain ⟨y,hy⟩:∃ y,x.asg[j]? = some y:=⟨x.asg[j],by simp[hlt]⟩
      have hwy:=(hwa y (List.mem_of_getElem? hy)).1
      have hle:=le_foldA (x.asg.take j) hl1
      rw[List.length_take] at hle
      have hla:=hle.a
      obtain ⟨qa,hqa⟩:∃ qa,(x.asg.take j).foldl addA q1=qa:=⟨_,rfl⟩
      have hqs:(x.asg.take (j+1)).foldl addA q1=addA qa y:=by rw[foldl_take _ _ hy,hqa]
      rw[hqa] at M z2 hla
      obtain ⟨r,hr⟩:∃ r,getR y.ix (abs al1)=r:=⟨_,rfl⟩
      have hof:=of_spec lb m 134 [sl ord,.int .i64 (q.n+1),.int .i64 x.ep,sl ash1] y.ix hwy al1
      rw[hr] at hof
      (try refine zI zk40 F M ?_;clear F M a;try clear w);(repeat'(first|refine zA ?_;repeat intro b|refine zC ?_;(first|refine acCall (k:=104) ?_;refine Spec.mono (Spec.pre (Spec.fr hof _) (by simp only[zc,zn];exact permsA)) ?_;rintro u L' ⟨L2,⟨l1,br,l2,h,rfl,hs,rfl⟩,rfl⟩;simp only[zc,zn]|refine ac_appendH (f:=asgL) (xs:=qa.asg) (ys:=[y]) rfl rfl inferInstance rfl rfl (by(focus ((repeat (first|exact Pull.here|apply Pull.there));done))) inferInstance (gs_own (by(focus ((repeat (first|exact Pull.here|apply Pull.there));done)))) rfl rfl (by simp;omega) ?_;intro v')|refine zB ?_ ?_<;>intro hc<;>try exact no hc|refine zH ?_ ?_<;>(intro hg;rw[hg];try exact no hg)));all_goals try refine zO fun a w F M=>?_
      all_goals first
        | (have M:=rec_close (l1:=l1) (l2:=l2) (i:=y.ix) (br:=br) (r:=r) (h:=h) (M.perms permsA)
           have e:hAsg y r=r:=by simp_all [hAsg]
           rw[ptrs_set l1 l2 y.ix br r0 r] at M
           refine sv_again F M (j+1,l1++(y.ix,br,r)::l2,v') kpA (by rw[hqs];exact permsA) ⟨by simp only;omega,?_⟩ (by simp only;omega)
           simp only
           rw[hqs,hs,addA,← z2,hr,e])
        | (have M:=rec_close (l1:=l1) (l2:=l2) (i:=y.ix) (br:=br) (r:={r with asd:=true,ex:={r.ex with asg:=y.ep}}) (h:=h) (M.perms permsA)
           have e:hAsg y r={r with asd:=true,ex:={r.ex with asg:=y.ep}}:=by simp_all [hAsg]
           rw[ptrs_set l1 l2 y.ix br r0 {r with asd:=true,ex:={r.ex with asg:=y.ep}}] at M
           refine sv_again F M (j+1,l1++(y.ix,br,{r with asd:=true,ex:={r.ex with asg:=y.ep}})::l2,v') kpA (by rw[hqs];exact permsA) ⟨by simp only;omega,?_⟩ (by simp only;omega)
           simp only
           rw[hqs,hs,addA,← z2,hr,e])
    · have ej:x.asg.take j=x.asg:=List.take_of_length_le (by omega)
      rw[ej] at M z2
      obtain ⟨q2,hq2⟩:∃ q2,x.asg.foldl addA q1=q2:=⟨_,rfl⟩
      have hl2:=le_foldA x.asg hl1
      obtain ⟨k1,k2,k3⟩:=foldA_keep x.asg q1
      rw[hq2] at M z2 hl2 k1 k2 k3
      (try refine zI zk40 F M ?_;clear F M a;try clear w);(repeat'(first|refine zA ?_;repeat intro b|refine zC ?_;(first|refine acCall (k:=104) ?_;refine Spec.mono (Spec.pre (Spec.fr hof _) (by simp only[zc,zn];exact permsA)) ?_;rintro u L' ⟨L2,⟨l1,br,l2,h,rfl,hs,rfl⟩,rfl⟩;simp only[zc,zn]|refine ac_appendH (f:=asgL) (xs:=qa.asg) (ys:=[y]) rfl rfl inferInstance rfl rfl (by(focus ((repeat (first|exact Pull.here|apply Pull.there));done))) inferInstance (gs_own (by(focus ((repeat (first|exact Pull.here|apply Pull.there));done)))) rfl rfl (by simp;omega) ?_;intro v')|refine zB ?_ ?_<;>intro hc<;>try exact no hc|refine zH ?_ ?_<;>(intro hg;rw[hg];try exact no hg)));all_goals try refine zO fun a w F M=>?_
      refine svLoop F M ((0,al1):Nat × AL) (fun z=>[(76,.int .i64 z.1)]) (fun z=>[pt lb [.map (some m),sl ord,.int .i64 (q.n+1),.int .i64 x.ep,sl ash1] 134,mp m 3 (ptrs z.2),restA z.2])
        (fun z=>z.1≤x.pms.length∧abs z.2=((x.pms.take z.1).foldl (addP x.ep) q2).recs) (fun z=>x.pms.length - z.1) [] ⟨by simp,by simpa using z2⟩ ?_
      (rintro⟨j',al2⟩ ⟨y1,y2⟩ a w F M;(try simp only[zc,zn] at F M y1 y2 ⊢))
      by_cases hlt':j'<x.pms.length
      · obtain ⟨y,hy⟩:∃ y,x.pms[j']? = some y:=⟨x.pms[j'],by simp[hlt']⟩
        have hwy:=(hwp y (List.mem_of_getElem? hy)).1
        have hle:=(le_foldP x.ep (x.pms.take j') hl2).p y.ix
        rw[List.length_take,← y2] at hle
        have hps:=hpay_spec lb m 134 [sl ord,.int .i64 (q.n+1),.int .i64 x.ep,sl ash1] y x.ep hwy al2 (by omega)
        (try refine zI zk40 F M ?_;clear F M a;try clear w);(repeat'(first|refine zA ?_;repeat intro b|refine zC ?_;refine acCall (k:=105) ?_;refine Spec.mono (Spec.pre (Spec.fr hps _) (by simp only[zc,zn];exact permsA)) ?_;rintro u L' ⟨L2,⟨rfl,al3,hs,rfl⟩,rfl⟩;simp only[zc,zn]|refine zB ?_ ?_<;>intro hc<;>try exact no hc|refine zH ?_ ?_<;>(intro hg;rw[hg];try exact no hg)));all_goals try refine zO fun a w F M=>?_
        refine sv_again F M (j'+1,al3) kpA permsA ⟨by simp only;omega,?_⟩ (by simp only;omega)
        simp only
        rw[foldl_take _ _ hy,hs,y2];rfl
      · have ej':x.pms.take j'=x.pms:=List.take_of_length_le (by omega)
        rw[ej'] at y2
        obtain ⟨q3,hq3⟩:∃ q3,x.pms.foldl (addP x.ep) q2=q3:=⟨_,rfl⟩
        obtain ⟨m1,m2,m3,m4⟩:=foldP_keep x.ep x.pms q2
        have hl3:=le_foldP x.ep x.pms hl2
        rw[hq3] at y2 m1 m2 m3 m4 hl3
        have hof:=of_spec lb m 134 [sl ord,.int .i64 (q.n+1),.int .i64 x.ep,sl ash1] x.ix hw.ix al2
        have hob:q.ord.length≤5000000:=by have:=hl.o;omega
        have hb0:=fun al ord=>begin_spec lb m (.int .i64 (q.n+1)) (.int .i64 x.ep) (sl ash1) x.ix 0 hw.ix al q.ord ord x s p hob
        have hb1:=fun al ord=>begin_spec lb m (.int .i64 (q.n+1)) (.int .i64 x.ep) (sl ash1) x.ix 1 hw.ix al q.ord ord x s p hob
        have ho3:q3.ord=q.ord:=by rw[m1,k1,hq1]
        have hn3:q3.n=q.n+1:=by rw[m2,k2,hq1]
        have he3:q3.ep=x.ep:=by rw[m3,k3,hq1]
        have ha3:q3.asg=q2.asg:=m4
        have hR:hAdd k.k x q=(if k.k=2 then addB 1 x q3 else if k.k=4 then addB 0 x (addS x q3) else if k.k=3 then addB 0 x q3 else q3):=by
          rw[hAdd,if_neg (by simpa using hc0),← hq3,← hq2,hq1]
        have hq3e:q3=⟨abs al2,q.ord,q.n+1,x.ep,q2.asg⟩:=by rw[y2,← ho3,← hn3,← he3,← ha3]
        have hend:∀ {w:World} {al:AL} {ord':SlH} {o:List Int} {K:List Asn},Mem w K→Perms K (pt lb [.map (some m),sl ord',.int .i64 (q.n+1),.int .i64 x.ep,sl ash1] 134::mp m 3 (ptrs al)::ownT 3 intL 1 (sl ord') o::ownT 75 asgL 3 (sl ash1) q2.asg::restA al::(R++G))→∀ q':HS,q'=⟨abs al,o,q.n+1,x.ep,q2.asg⟩→∃ v L',Ending.returned (.tuple #[])=Ending.returned v∧(v=.tuple #[]∧L'=logA lb q'::R)∧Mem w (L'++G) :=
          fun M hp _ h=>⟨_,_,rfl,⟨rfl,rfl⟩,log_close (M.perms hp) h⟩
        by_cases h2:k.k=2
        · rw[if_pos h2] at hR
          (try refine zI zk40 F M ?_;clear F M a;try clear w);(repeat'(first|refine zA ?_;repeat intro b|refine zC ?_;refine acCall (k:=106) ?_;refine Spec.mono (Spec.pre (Spec.fr (hb1 al2 ord) _) (by simp only[zc,zn];exact permsA)) ?_;rintro u L' ⟨L2,⟨rfl,al4,ord',hs,rfl⟩,rfl⟩;simp only[zc,zn]|refine zB ?_ ?_<;>intro hc<;>try exact no hc|refine zH ?_ ?_<;>(intro hg;rw[hg];try exact no hg)));all_goals try refine zO fun a w F M=>?_
          all_goals(first|(refine svEnd F M ?_)|(refine svRet F M ?_))
          exact hend M permsA _ (by rw[hR,hq3e,addB,hs])
        · rw[if_neg h2] at hR
          by_cases h4:k.k=4
          · rw[if_pos h4] at hR
            obtain ⟨r,hr⟩:∃ r,getR x.ix (abs al2)=r:=⟨_,rfl⟩
            rw[hr] at hof
            have hbk:∀ {l1 l2:AL} {br:Nat} {h:SlH} {r':Rd},r'=slashR x.ep r→(∀ r',abs (l1++(x.ix,br,r')::l2)=setR x.ix r' (abs al2))→Spec 106 [ptr lb,.int .i64 x.ix,.int .i64 0,rcV x s p] [pt br (recL r' h) 136,ownT 57 pmL 3 (sl h) r'.pays,restA (l1++l2),pt lb [.map (some m),sl ord,.int .i64 (q.n+1),.int .i64 x.ep,sl ash1] 134,mp m 3 (ptrs (l1++(x.ix,br,r0)::l2)),ownT 3 intL 1 (sl ord) q.ord]
                fun u L'=>u=.tuple #[]∧∃ al5 o5 ord',hAdd k.k x q=⟨abs al5,o5,q.n+1,x.ep,q2.asg⟩∧L'=[pt lb [.map (some m),sl ord',.int .i64 (q.n+1),.int .i64 x.ep,sl ash1] 134,mp m 3 (ptrs al5),ownT 3 intL 1 (sl ord') o5,restA al5]:=by
              rintro l1 l2 br h r' rfl hs G w M
              have M:=rec_close (i:=x.ix) M
              rw[ptrs_set l1 l2 x.ix br r0 (slashR x.ep r)] at M
              have e4:abs (l1++(x.ix,br,slashR x.ep r)::l2)=(addS x q3).recs:=by rw[hs,addS,← y2,hr]
              refine(hb0 _ ord G w (M.perms permsA)).mono ?_
              rintro e w' ⟨v,L',e1,⟨e2,al5,ord',hs5,e3⟩,M'⟩
              refine⟨v,L',e1,⟨e2,al5,_,ord',?_,e3⟩,M'⟩
              rw[hR,addB,← e4,← hs5,← ho3,← hn3,← he3,← ha3];rfl
            have es1:r.sld=false→slashR x.ep r={r with sld:=true,ex:={r.ex with sl:=x.ep}}:=fun h=>by simp[slashR,h]
            have es2:r.sld=true→slashR x.ep r=r:=fun h=>by simp[slashR,h]
            (try refine zI zk40 F M ?_;clear F M a;try clear w);(repeat'(first|refine zA ?_;repeat intro b|refine zC ?_;(first|refine acCall (k:=104) ?_;refine Spec.mono (Spec.pre (Spec.fr hof _) (by simp only[zc,zn];exact permsA)) ?_;rintro u L' ⟨L2,⟨l1,br,l2,h,rfl,hs,rfl⟩,rfl⟩;simp only[zc,zn]|refine acCall (k:=106) ?_;refine Spec.mono (Spec.pre (Spec.fr (hbk (l1:=l1) (l2:=l2) (br:=br) (h:=h) (r':={r with sld:=true,ex:={r.ex with sl:=x.ep}}) (es1 ‹r.sld=false›).symm hs) _) (by simp only[zc,zn];exact permsA)) ?_;rintro u L' ⟨L2,⟨rfl,al5,o5,ord',h5,rfl⟩,rfl⟩;simp only[zc,zn]|refine acCall (k:=106) ?_;refine Spec.mono (Spec.pre (Spec.fr (hbk (l1:=l1) (l2:=l2) (br:=br) (h:=h) (r':=r) (es2 ‹r.sld=true›).symm hs) _) (by simp only[zc,zn];exact permsA)) ?_;rintro u L' ⟨L2,⟨rfl,al5,o5,ord',h5,rfl⟩,rfl⟩;simp only[zc,zn])|refine zB ?_ ?_<;>intro hc<;>try exact no hc|refine zH ?_ ?_<;>(intro hg;rw[hg];try exact no hg)));all_goals try refine zO fun a w F M=>?_
            all_goals(first|(refine svEnd F M ?_)|(refine svRet F M ?_))
            all_goals exact hend M permsA _ h5
          · rw[if_neg h4] at hR
            by_cases h3:k.k=3
            · rw[if_pos h3] at hR
              (try refine zI zk40 F M ?_;clear F M a;try clear w);(repeat'(first|refine zA ?_;repeat intro b|refine zC ?_;refine acCall (k:=106) ?_;refine Spec.mono (Spec.pre (Spec.fr (hb0 al2 ord) _) (by simp only[zc,zn];exact permsA)) ?_;rintro u L' ⟨L2,⟨rfl,al4,ord',hs,rfl⟩,rfl⟩;simp only[zc,zn]|refine zB ?_ ?_<;>intro hc<;>try exact no hc|refine zH ?_ ?_<;>(intro hg;rw[hg];try exact no hg)));all_goals try refine zO fun a w F M=>?_
              all_goals(first|(refine svEnd F M ?_)|(refine svRet F M ?_))
              exact hend M permsA _ (by rw[hR,hq3e,addB,hs])
            · rw[if_neg h3] at hR
              (try refine zI zk40 F M ?_;clear F M a;try clear w);(repeat'(first|refine zA ?_;repeat intro b|refine zC ?_;refine acCall (k:=106) ?_;refine Spec.mono (Spec.pre (Spec.fr (hb0 al2 ord) _) (by simp only[zc,zn];exact permsA)) ?_;rintro u L' ⟨L2,⟨rfl,al4,ord',hs,rfl⟩,rfl⟩;simp only[zc,zn]|refine zB ?_ ?_<;>intro hc<;>try exact no hc|refine zH ?_ ?_<;>(intro hg;rw[hg];try exact no hg)));all_goals try refine zO fun a w F M=>?_
              all_goals(first|(refine svEnd F M ?_)|(refine svRet F M ?_))
              exact hend M permsA _ (by rw[hR,hq3e])
  · (try refine zI zk40 F M ?_;clear F M a;try clear w);(repeat'(first|refine zA ?_;repeat intro b|refine zC ?_;refine acCall (k:=106) ?_;refine Spec.mono (Spec.pre (Spec.fr (hb0 al2 ord) _) (by simp only[zc,zn];exact permsA)) ?_;rintro u L' ⟨L2,⟨rfl,al4,ord',hs,rfl⟩,rfl⟩;simp only[zc,zn]|refine zB ?_ ?_<;>intro hc<;>try exact no hc|refine zH ?_ ?_<;>(intro hg;rw[hg];try exact no hg)));all_goals try refine zO fun a w F M=>?_
    all_goals(first|(refine svEnd F M ?_)|(refine svRet F M ?_))
    refine⟨_,_,rfl,⟨rfl,rfl⟩,?_⟩
    rw[hAdd,if_pos hc0]
    have M:=M.perms (permsA:Perms _ (pt lb [.map (some m),sl ord,.int .i64 (q.n+1),.int .i64 q.ep,sl ash] 134::mp m 3 (ptrs al)::ownT 3 intL 1 (sl ord) q.ord::ownT 75 asgL 3 (sl ash) q.asg::restA al::(R++G)))
    exact Mem.exc (f:=logL lb {q with n:=q.n+1}) ⟨m,ord,ash,al⟩ (M.fact hal)
end
end Go.Proofs.YtjbfcacmdahnhaaGreat
