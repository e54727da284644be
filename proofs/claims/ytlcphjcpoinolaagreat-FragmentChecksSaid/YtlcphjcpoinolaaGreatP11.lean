/- Part of the proof: the walk over the program and its laws: Qb. -/
import Derived.Test.YtlcphjcpoinolaaGreatP0
import Derived.Test.YtlcphjcpoinolaaGreatP10
set_option linter.unusedVariables false
namespace Go.Proofs.YtlcphjcpoinolaaGreat
open Go.RowKit Go.Th
set_option maxRecDepth 20000
theorem Xb8 {P:Program} {n:Nat} {Q:QA} {E:Env} {H:Xi} {c:Code} {L:List (Nat × Blk)} (hG:Has H L) (h:∀ G,Has G L→wpA P n c Q E G):wpA P n c Q E H:=h H hG
def idF (s:CkS) (i:Int):Int:=if inF i 1 1073741824=false then 18 else if s.used i=true then 18 else if s.before i=true then 7 else 0
def idN (s:CkS) (i:Int):CkS:={ s with before:=fun k=>if k=i then true else s.before k,e:={ s.e with eb:=Xf8 s.e.eb s.e.tb i (B true),tb:=Xf9 s.e.eb s.e.tb i } }
def idS (s:CkS) (i:Int):CkS:=if idF s i=0 then idN s i else s
set_option maxHeartbeats 16000000 in
theorem Xvk (c:CkId) (s:CkS) (K:List (Nat × Blk)) (H:Xi) (hc:CkH c s K H) (i:Int):AC Tryz.prog 181 [.ptr c.ic 0,I i] H (fun p G=>p=I (idF s i)∧CkH c (idS s i) K G):=by
  have hc0:=hc
  obtain ⟨es,el,er,eb,eu,ts,tl,tr,tb,tu,hG,a1,a2,a3,a4,a5⟩:=hc
  have hin:=Xcl i 1 1073741824
  have tin:∀ c ∈ [I i,I 1,I 1073741824],Xk c:=TreeL.cons (Xe _) (TreeL.cons (Xe _) (TreeL.cons (Xe _) TreeL.nil))
  refine Xv Tryz.func181 rfl rfl rfl ?_
  have u5:=a5.1 i
  have u4:=a4 i
  cases hb:inF i 1 1073741824 with
  | false =>
    have e1:idF s i=18:=by unfold idF;rw [hb,if_pos rfl]
    have e2:idS s i=s:=by unfold idS;rw [e1,if_neg (by decide)]
    rw [e1,e2]
    rw [hb] at hin
    repeat(first|refine Zes ?_|(refine ZbY ?_;rintro _ rfl))
    exact XC rfl rfl ⟨rfl,hc0⟩
  | true =>
  rw [hb] at hin
  cases hu:s.used i with
  | true =>
    have e1:idF s i=18:=by unfold idF;rw [hb,if_neg (by decide),hu,if_pos rfl]
    have e2:idS s i=s:=by unfold idS;rw [e1,if_neg (by decide)]
    rw [e1,e2]
    rw [hu] at u5
    repeat(first|refine Zes ?_|(refine ZbY ?_;rintro _ rfl)|refine ZcC ?_|refine ZL ?_)
    exact XC rfl rfl ⟨rfl,hc0⟩
  | false =>
  rw [hu] at u5
  cases hv:s.before i with
  | true =>
    have e1:idF s i=7:=by unfold idF;rw [hb,if_neg (by decide),hu,if_neg (by decide),hv,if_pos rfl]
    have e2:idS s i=s:=by unfold idS;rw [e1,if_neg (by decide)]
    rw [e1,e2]
    rw [hv] at u4
    repeat(first|refine Zes ?_|(refine ZbY ?_;rintro _ rfl)|refine ZcC ?_|refine ZdH ?_|refine ZL ?_)
    exact XC rfl rfl ⟨rfl,hc0⟩
  | false =>
    have e1:idF s i=0:=by unfold idF;rw [hb,if_neg (by decide),hu,if_neg (by decide),hv,if_neg (by decide)]
    have e2:idS s i=idN s i:=by unfold idS;rw [e1,if_pos rfl]
    rw [e1,e2]
    rw [hv] at u4
    repeat(first|refine Zes ?_|(refine ZbY ?_;rintro _ rfl)|refine ZcC ?_|refine ZdH ?_|(refine XiB (XcN .i64) 4 hG rfl rfl rfl rfl rfl rfl rfl ?_;intro G hG)|refine ZL ?_)
    refine XC rfl rfl ⟨rfl,⟨es,el,er,_,eu,ts,tl,tr,_,tu,hG,a1,a2,a3,fun k=>?_,a5.1,by unfold idN;simp only [a5.2];rfl⟩⟩
    rw [Xfi]
    show _=B (if k=i then true else s.before k)
    by_cases e:k=i
    · rw [if_pos e,if_pos e];rfl
    · rw [if_neg e,if_neg e];exact a4 k
def Xs7 (s:CkS) (el:Int) (l:List Lyr) (i:Nat):Int:=match l[i]? with
  | none=>0
  | some x=>if s.revs x.rev=false then 22 else if XlA el x.key=false then 4 else if 0 < i∧(match l[i - 1]? with | some q=>decide (x.key < q.key) | none=>false)=true then 6 else
    if x.had=false then XbO (!decide (x.before=0)) 21 else XaG [Xeh x.key x.before,XoV s x.key x.before]
set_option maxHeartbeats 16000000 in
theorem XrP (c:CkId) (s:CkS) (K:List (Nat × Blk)) (H:Xi) (hc:CkH c s K H) (el:Int) (l:List Lyr) (i:Nat) (hi:i < l.length) (hl:l.length≤1000000):AC Tryz.prog 117 [.ptr c.ic 0,I el,Xl l,I i] H (fun p G=>p=I (Xs7 s el l i)∧CkH c s K G):=by
  obtain ⟨x,hx⟩:∃ x,l[i]?=some x:=⟨_,List.getElem?_eq_getElem hi⟩
  have hxc:=Xp (enc:=Xaw) (sz:=4) (fun x=>by cases x;rfl) l i x hx
  obtain ⟨e,he⟩:∃ e,Xs7 s el l i=e:=⟨_,rfl⟩
  rw [he]
  unfold Xs7 at he
  rw [hx] at he
  dsimp only at he
  obtain ⟨es,el',er,eb,eu,ts,tl,tr,tb,tu,hG,a1,a2,a3,a4,a5⟩:=hc
  have u3:=a3 x.rev
  have hF:=Xm5 el x.key
  have tF:∀ c ∈ [I el,I x.key],Xk c:=TreeL.cons (Xe _) (TreeL.cons (Xe _) TreeL.nil)
  refine Xv Tryz.func117 rfl rfl rfl ?_
  refine Zc ?_
  refine Zb ?_
  repeat(first|refine Zd ?_)
  refine Za ?_
  refine Zc ?_
  refine Zb ?_
  repeat(first|refine Xn rfl rfl (by decide) (Xc (cells:=l.flatMap Xaw) rfl rfl rfl (by omega) (by exact hxc)) ?_|refine Zet ?_|(refine Zz ?_;intro G hG)|(refine ZI ?_;intro id G hG))
  refine Za ?_
  refine Xb8 (L:=(id,⟨Xaw x,203,true⟩)::(c.ic,ckB c s.units)::(c.is,XU kyI es ts)::(c.il,XU kyI el' tl)::(c.ir,XU kyI er tr)::(c.ib,XU kyI eb tb)::(c.iu,XU kyI eu tu)::K) hG ?_
  clear hG
  intro G hG
  refine XbQ (S:=Unit) (fun _=>[(0,.ptr c.ic 0),(9,.ptr id 0)]) (fun _ G=>Has G ((id,⟨Xaw x,203,true⟩)::(c.ic,ckB c s.units)::(c.is,XU kyI es ts)::(c.il,XU kyI el' tl)::(c.ir,XU kyI er tr)::(c.ib,XU kyI eb tb)::(c.iu,XU kyI eu tu)::K)∧XaG [Xeh x.key x.before,XoV s x.key x.before]=e) ?_ ?_
  · have o2:=hxc
    cases hr:s.revs x.rev with
    | false =>
      rw [if_pos hr] at he
      rw [hr] at u3
      repeat(first|refine Zes ?_)
      refine ZD ?_
      repeat(first|refine Z4 ?_|refine Zar ?_|refine Zas ?_|refine Zeu ?_)
      repeat(first|refine Zes ?_)
      exact ZbZ
    | true =>
    rw [if_neg (by rw [hr];decide)] at he
    rw [hr] at u3
    cases hf:XlA el x.key with
    | false =>
      rw [if_pos hf] at he
      rw [hf] at hF
      repeat(first|refine Zes ?_)
      refine ZD ?_
      repeat(first|refine Z4 ?_|refine Zar ?_|refine Zas ?_|refine Zeu ?_)
      repeat(first|refine Zes ?_|(refine ZaD ?_;rintro _ rfl))
      exact ZbZ
    | true =>
    rw [if_neg (by rw [hf];decide)] at he
    rw [hf] at hF
    by_cases h0:0 < i
    · obtain ⟨q,hq⟩:∃ q,l[i - 1]?=some q:=⟨_,List.getElem?_eq_getElem (by omega)⟩
      have o2:Xav 4 ((l.flatMap Xaw).drop (((i:Int) - 1).toNat * 4))=some (Xaw q):=by
        rw [show ((i:Int) - 1).toNat=i - 1 by omega];exact Xp (enc:=Xaw) (sz:=4) (fun x=>by cases x;rfl) l (i - 1) q hq
      rw [hq] at he
      by_cases c4:x.key < q.key
      · rw [if_pos ⟨h0,decide_eq_true c4⟩] at he
        repeat(first|refine Zes ?_)
        refine ZD ?_
        repeat(first|refine Z4 ?_|refine Zar ?_|refine Zas ?_|refine Zeu ?_)
        repeat(first|refine Zes ?_|(refine ZaD ?_;rintro _ rfl))
        refine ZD ?_
        repeat(first|refine ZU ?_|refine ZcD ?_|refine Zeu ?_|refine ZaS ?_)
        repeat(first|refine Zes ?_)
        exact ZbZ
      rw [if_neg (fun h=>c4 (of_decide_eq_true h.2))] at he
      cases hh:x.had with
      | false =>
        rw [if_pos hh] at he
        have hxe:Xaw x=[I x.rev,I x.key,I x.before,B false]:=by rw [Xaw,hh]
        rw [hxe] at hG
        have hW:=Xbe (!decide (x.before=0)) 21
        have tW:∀ c ∈ [B (!decide (x.before=0)),I 21],Xk c:=TreeL.cons (Xk.v _) (TreeL.cons (Xk.v _) TreeL.nil)
        repeat(first|refine Zes ?_)
        refine ZD ?_
        repeat(first|refine Z4 ?_|refine Zar ?_|refine Zas ?_|refine Zeu ?_)
        repeat(first|refine Zes ?_|(refine ZaD ?_;rintro _ rfl))
        refine ZD ?_
        repeat(first|refine ZU ?_|refine ZcD ?_|refine Zeu ?_)
        repeat(first|refine Zes ?_|(refine ZcE ?_;rintro _ rfl)|refine Z7 ?_)
        exact ZdI
      | true =>
        rw [if_neg (by rw [hh];decide)] at he
        have hxe:Xaw x=[I x.rev,I x.key,I x.before,B true]:=by rw [Xaw,hh]
        rw [hxe] at hG
        repeat(first|refine Zes ?_)
        refine ZD ?_
        repeat(first|refine Z4 ?_|refine Zar ?_|refine Zas ?_|refine Zeu ?_)
        repeat(first|refine Zes ?_|(refine ZaD ?_;rintro _ rfl))
        refine ZD ?_
        repeat(first|refine ZU ?_|refine ZcD ?_|refine Zeu ?_)
        repeat(first|refine Zes ?_|refine ZY ?_|refine Z1 ?_)
        exact ⟨(),.cons rfl (.cons rfl (.nil _)),hxe ▸ hG,he⟩
    rw [if_neg (fun h=>h0 h.1)] at he
    cases hh:x.had with
    | false =>
      rw [if_pos hh] at he
      have hxe:Xaw x=[I x.rev,I x.key,I x.before,B false]:=by rw [Xaw,hh]
      rw [hxe] at hG
      have hW:=Xbe (!decide (x.before=0)) 21
      have tW:∀ c ∈ [B (!decide (x.before=0)),I 21],Xk c:=TreeL.cons (Xk.v _) (TreeL.cons (Xk.v _) TreeL.nil)
      repeat(first|refine Zes ?_)
      refine ZD ?_
      repeat(first|refine Z4 ?_|refine Zar ?_|refine Zas ?_|refine Zeu ?_)
      repeat(first|refine Zes ?_|(refine ZaD ?_;rintro _ rfl))
      refine ZD ?_
      repeat(first|refine Zeu ?_)
      repeat(first|refine Zes ?_|(refine ZcE ?_;rintro _ rfl)|refine Z7 ?_)
      exact ZdI
    | true =>
      rw [if_neg (by rw [hh];decide)] at he
      have hxe:Xaw x=[I x.rev,I x.key,I x.before,B true]:=by rw [Xaw,hh]
      rw [hxe] at hG
      repeat(first|refine Zes ?_)
      refine ZD ?_
      repeat(first|refine Z4 ?_|refine Zar ?_|refine Zas ?_|refine Zeu ?_)
      repeat(first|refine Zes ?_|(refine ZaD ?_;rintro _ rfl))
      refine ZD ?_
      repeat(first|refine Zeu ?_)
      repeat(first|refine Zes ?_|refine ZY ?_|refine Z1 ?_)
      exact ⟨(),.cons rfl (.cons rfl (.nil _)),hxe ▸ hG,he⟩
  rintro ⟨⟩ G ⟨hG,he⟩
  have hC:=XeO x.key x.before
  have hR:=Xf0 c s K G ⟨es,el',er,eb,eu,ts,tl,tr,tb,tu,hG.tail,a1,a2,a3,a4,a5⟩ x.key x.before
  generalize Xeh x.key x.before=a at hC he
  generalize XoV s x.key x.before=b at hR he
  have hI:=Xa8 [a,b] (by simp)
  have tI:∀ c ∈ [XcS [a,b]],Xk c:=TreeL.cons (XY _) TreeL.nil
  obtain ⟨H1,e1⟩:∃ X,X=G++[some (Blk.mk [I a,I b] 29 true)]:=⟨_,rfl⟩
  have hG1:=hG.new (Blk.mk [I a,I b] 29 true)
  rw [← e1] at hG1
  repeat refine Xaf ?_
  refine Zaa ?_
  repeat(first|refine Zbo ?_|refine Y_k rfl rfl rfl (by decide) (fun _=>Iso.K rfl rfl rfl rfl hC (TreeL.cons (Xe _) (TreeL.cons (Xe _) TreeL.nil))) ?_|refine XA3 0 (by decide +kernel) (by decide +kernel) rfl rfl rfl rfl (by decide) (AC.K rfl rfl rfl rfl hR) ?_|refine ZcF ?_|refine Zay ?_|refine Zex ?_)
  have hG:=hG1.tail
  repeat(first|refine Zf ?_)
  exact ZbZ
end Go.Proofs.YtlcphjcpoinolaaGreat
