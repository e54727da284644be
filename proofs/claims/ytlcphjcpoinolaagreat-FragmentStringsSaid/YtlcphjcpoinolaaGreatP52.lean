/- Part of the proof: the walk over the program and its laws: Jg. -/
import Derived.Test.YtlcphjcpoinolaaGreatP0
import Derived.Test.YtlcphjcpoinolaaGreatP51
import Derived.Test.YtlcphjcpoinolaaGreatP48
import Derived.Test.YtlcphjcpoinolaaGreatP29
set_option linter.unusedVariables false
namespace Go.Proofs.YtlcphjcpoinolaaGreat
open Go.RowKit Go.Th
set_option maxRecDepth 20000
theorem XqK (s:ByteArray) (j:Nat) (hj:j < s.size):s.data.toList[j]?=some (UInt8.ofNat (Xd s j)):=by
  unfold Xd
  rw [getElem?_pos s j hj]
  have h1:s.data.toList[j]?=some (s.data[j]):=by
    rw [Array.getElem?_toList]
    exact Array.getElem?_eq_getElem hj
  rw [h1]
  have h2:s[j]=s.data[j]:=rfl
  rw [← h2]
  simp
theorem Xpv (s:ByteArray):∀ (f i:Nat),i≤s.size→s.size+1 - i≤f→XdY s f i < 0 →
    ∃ q:List Nat,Xw5 s f i=q.map (fun p=>((p:Nat):Int))∧(∀ p ∈ q,ptN p)∧q.length≤s.size - i∧s.data.toList.drop i=q.flatMap Xat
  | 0,i,h1,h2,_=>by omega
  | f+1,i,h1,h2,h3=>by
    have hsz:s.data.toList.length=s.size:=by rw [Array.length_toList];rfl
    rw [XdY] at h3
    rw [Xw5]
    by_cases hi:i < s.size
    rotate_left
    · rw [if_neg hi]
      exact ⟨[],rfl,(fun p h=>by cases h),Nat.zero_le _,List.drop_eq_nil_of_le (by omega)⟩
    rw [if_pos hi] at h3 ⊢
    have hok:(Xgw s i).2.2=true:=by
      by_cases h:(Xgw s i).2.2=true
      · exact h
      · rw [if_neg h] at h3;omega
    rw [if_pos hok] at h3
    obtain ⟨o1,o2,o3⟩:=Xml hi hok
    rcases hd:Xgw s i with ⟨p,n,b⟩
    rw [hd] at hok o1 o2 o3 h3
    dsimp only at hok o1 o2 o3 h3 ⊢
    subst hok
    obtain ⟨p0,rfl,hp0,he⟩:=XwF hi hd
    obtain ⟨q,e1,e2,e3,e4⟩:=Xpv s f (i+n) (by omega) (by omega) h3
    refine ⟨p0::q,by rw [e1];rfl,?_,by rw [List.length_cons];omega,?_⟩
    · intro x hx
      rcases List.mem_cons.1 hx with rfl | hx
      · exact hp0
      · exact e2 x hx
    · rw [List.flatMap_cons,← e4]
      have e5:Xat p0=(s.data.toList.drop i).take n:=by
        unfold Xat
        rw [he,List.map_map]
        apply List.ext_getElem?
        intro j
        by_cases hj:j < n
        · rw [List.getElem?_take_of_lt hj,List.getElem?_drop,XqK s (i+j) (by omega),List.getElem?_map,List.getElem?_range hj]
          rfl
        · rw [List.getElem?_eq_none (by simp;omega),List.getElem?_eq_none (by rw [List.length_take];omega)]
      rw [e5,← List.drop_drop,List.take_append_drop]
theorem Xo1 (s:ByteArray) (hv:XaZ s=true):∃ q:List Nat,XAS s=q.map (fun p=>((p:Nat):Int))∧(∀ p ∈ q,ptN p)∧q.length≤s.size∧s=txt (q.flatMap Xat):=by
  obtain ⟨q,e1,e2,e3,e4⟩:=Xpv s (s.size+1) 0 (Nat.zero_le _) (by omega) (of_decide_eq_true hv)
  refine ⟨q,e1,e2,by omega,?_⟩
  rw [List.drop_zero] at e4
  rw [← e4]
  rfl
theorem Xjs (p:Nat):1≤(Xgj p).length∧(Xgj p).length≤4:=by
  unfold Xgj
  (repeat' split) <;> simp
theorem XwA {t:ByteArray} {i p:Nat} (hp:ptN p) (hs:i+(Xgj p).length≤t.size) (hb:∀ j x,(Xgj p)[j]?=some x→Xd t (i+j)=x):∃ v,Xgw t i=(v,(Xgj p).length,true):=by
  have step:∀ {n f k lo hi:Nat} {p:Int},k < n→i+k < t.size→lo≤Xd t (i+k)→Xd t (i+k)≤hi→∃ q,XhX t i n (f+1) k p lo hi=XhX t i n f (k+1) q 128 191:=by
    intro n f k lo hi p h1 h2 h3 h4
    rw [XhX,if_pos h1,if_neg (by omega),if_neg (by omega),if_neg (by omega)]
    exact ⟨_,rfl⟩
  have stop:∀ {n f k lo hi:Nat} {p:Int},¬ k < n→XhX t i n f k p lo hi=(p,k,true):=by
    intro n f k lo hi p h1
    cases f with
    | zero=>rw [XhX]
    | succ f=>rw [XhX,if_neg h1]
  obtain ⟨hp1,hp2⟩:=hp
  have lo_:∀ c,Xfk c=if c=224 then 160 else if c=240 then 144 else 128:=fun c=>rfl
  have hi_:∀ c,Xfl c=if c=237 then 159 else if c=244 then 143 else 191:=fun c=>rfl
  unfold Xgw
  dsimp only
  unfold Xgj at hs hb ⊢
  by_cases c1:p < 128
  · rw [if_pos c1] at hs hb ⊢
    have b0:=hb 0 _ rfl
    rw [Nat.add_zero] at b0
    have t1:tlN (Xd t i)=1:=by unfold tlN;rw [if_pos (by omega)]
    rw [t1,if_neg (by omega),if_pos rfl]
    exact ⟨_,rfl⟩
  rw [if_neg c1] at hs hb ⊢
  by_cases c2:p < 2048
  · rw [if_pos c2] at hs hb ⊢
    have b0:=hb 0 _ rfl
    have b1:=hb 1 _ rfl
    rw [Nat.add_zero] at b0
    simp only [List.length_cons,List.length_nil] at hs ⊢
    have t1:tlN (Xd t i)=2:=by unfold tlN;rw [if_neg (by omega),if_neg (by omega),if_neg (by omega),if_pos (by omega)]
    have l1:Xfk (Xd t i)=128:=by rw [lo_,if_neg (by omega),if_neg (by omega)]
    have h1:Xfl (Xd t i)=191:=by rw [hi_,if_neg (by omega),if_neg (by omega)]
    rw [t1,if_neg (by omega),if_neg (by omega),l1,h1]
    obtain ⟨q1,e1⟩:=step (n:=2) (f:=1) (k:=1) (lo:=128) (hi:=191) (p:=Xgn .i64 ((Xd t i:Nat):Int) (XgU .i64 127 ((2:Nat):Int))) (by omega) (by omega) (by omega) (by omega)
    rw [e1,stop (by omega)]
    exact ⟨_,rfl⟩
  rw [if_neg c2] at hs hb ⊢
  by_cases c3:p < 65536
  · rw [if_pos c3] at hs hb ⊢
    have b0:=hb 0 _ rfl
    have b1:=hb 1 _ rfl
    have b2:=hb 2 _ rfl
    rw [Nat.add_zero] at b0
    simp only [List.length_cons,List.length_nil] at hs ⊢
    have t1:tlN (Xd t i)=3:=by unfold tlN;rw [if_neg (by omega),if_neg (by omega),if_neg (by omega),if_neg (by omega),if_pos (by omega)]
    have l1:Xfk (Xd t i)≤Xd t (i+1):=by rw [lo_];(repeat' split) <;> omega
    have h1:Xd t (i+1)≤Xfl (Xd t i):=by rw [hi_];(repeat' split) <;> omega
    rw [t1,if_neg (by omega),if_neg (by omega)]
    obtain ⟨q1,e1⟩:=step (n:=3) (f:=2) (k:=1) (p:=Xgn .i64 ((Xd t i:Nat):Int) (XgU .i64 127 ((3:Nat):Int))) (by omega) (by omega) l1 h1
    obtain ⟨q2,e2⟩:=step (n:=3) (f:=1) (k:=2) (lo:=128) (hi:=191) (p:=q1) (by omega) (by omega) (by omega) (by omega)
    rw [e1,e2,stop (by omega)]
    exact ⟨_,rfl⟩
  · rw [if_neg c3] at hs hb ⊢
    have b0:=hb 0 _ rfl
    have b1:=hb 1 _ rfl
    have b2:=hb 2 _ rfl
    have b3:=hb 3 _ rfl
    rw [Nat.add_zero] at b0
    simp only [List.length_cons,List.length_nil] at hs ⊢
    have t1:tlN (Xd t i)=4:=by unfold tlN;rw [if_neg (by omega),if_neg (by omega),if_neg (by omega),if_neg (by omega),if_neg (by omega)]
    have l1:Xfk (Xd t i)≤Xd t (i+1):=by rw [lo_];(repeat' split) <;> omega
    have h1:Xd t (i+1)≤Xfl (Xd t i):=by rw [hi_];(repeat' split) <;> omega
    rw [t1,if_neg (by omega),if_neg (by omega)]
    obtain ⟨q1,e1⟩:=step (n:=4) (f:=3) (k:=1) (p:=Xgn .i64 ((Xd t i:Nat):Int) (XgU .i64 127 ((4:Nat):Int))) (by omega) (by omega) l1 h1
    obtain ⟨q2,e2⟩:=step (n:=4) (f:=2) (k:=2) (lo:=128) (hi:=191) (p:=q1) (by omega) (by omega) (by omega) (by omega)
    obtain ⟨q3,e3⟩:=step (n:=4) (f:=1) (k:=3) (lo:=128) (hi:=191) (p:=q2) (by omega) (by omega) (by omega) (by omega)
    rw [e1,e2,e3,stop (by omega)]
    exact ⟨_,rfl⟩
theorem Xfy (p:Nat):(Xat p).length=(Xgj p).length:=List.length_map ..
theorem Xkg:∀ (q:List Nat) (a:List UInt8) (f:Nat),(∀ p ∈ q,ptN p)→(txt (a++q.flatMap Xat)).size+1 - a.length≤f→XdY (txt (a++q.flatMap Xat)) f a.length < 0
  | [],a,f,_,hf=>by
    rw [List.flatMap_nil,List.append_nil] at hf ⊢
    cases f with
    | zero=>rw [XdY];omega
    | succ f=>rw [XdY,if_neg (by rw [Xaf];omega)];omega
  | p::q,a,f,hp,hf=>by
    have hpp:=hp p List.mem_cons_self
    have hl:=Xjs p
    have hsz:(txt (a++(p::q).flatMap Xat)).size=a.length+((Xgj p).length+(q.flatMap Xat).length):=by
      rw [Xaf,List.length_append,List.flatMap_cons,List.length_append,Xfy]
    have hlt:=Xqz p hpp.1
    cases f with
    | zero=>rw [hsz] at hf;omega
    | succ f =>
      obtain ⟨v,hv⟩:=XwA (t:=txt (a++(p::q).flatMap Xat)) (i:=a.length) hpp (by rw [hsz];omega) (fun j x hj=>by
        have hjl:=(List.getElem?_eq_some_iff.1 hj).1
        have hx:x < 256:=hlt x (List.mem_of_getElem? hj)
        rw [Xj1 _ (a.length+j) (UInt8.ofNat x) (by
          rw [List.getElem?_append_right (by omega),Nat.add_sub_cancel_left,List.flatMap_cons,List.getElem?_append_left (by rw [Xfy];exact hjl)]
          unfold Xat
          rw [List.getElem?_map,hj];rfl)]
        simp;omega)
      rw [XdY,if_pos (by rw [hsz];omega),hv]
      dsimp only
      rw [if_pos rfl]
      have e:a++(p::q).flatMap Xat=(a++Xat p)++q.flatMap Xat:=by rw [List.flatMap_cons,List.append_assoc]
      have e2:a.length+(Xgj p).length=(a++Xat p).length:=by rw [List.length_append,Xfy]
      rw [e2]
      rw [hsz] at hf
      rw [e] at hsz ⊢
      exact Xkg q (a++Xat p) f (fun x hx=>hp x (List.mem_cons_of_mem _ hx)) (by rw [hsz,← e2];omega)
theorem Xj0 (q:List Nat) (hp:∀ p ∈ q,ptN p):XaZ (txt (q.flatMap Xat))=true:=by
  have:=Xkg q [] _ hp (Nat.le_refl _)
  exact decide_eq_true this
def okJ (x:Item):Prop:=x=itP∨(∃ c,(c=1∨c=2∨c=3)∧x=itB c)∨∃ qs:List Nat,qs≠[]∧(∀ p ∈ qs,ptN p)∧x=itT (txt (qs.flatMap Xat))
theorem XuH {p:Nat} (hp:ptN p):okJ (itN p):=by
  unfold itN
  split
  · exact .inl rfl
  split
  · exact .inr (.inl ⟨1,.inl rfl,rfl⟩)
  split
  · exact .inr (.inl ⟨2,.inr (.inl rfl),rfl⟩)
  split
  · exact .inr (.inl ⟨3,.inr (.inr rfl),rfl⟩)
  · exact .inr (.inr ⟨[p],by simp,fun x hx=>by rw [List.mem_singleton] at hx;rw [hx];exact hp,by simp⟩)
def kndI:Item→Int
  | .mk k _ _ _ _ _ _=>k
theorem XnI (c i:Int) (t:ByteArray) (h:Head) (f:List Item) (r:List Row):wrI (.mk 1 c i t h f r)=t.data.toList:=rfl
theorem Xim {y x:Item} (h:XcR y x=true):kndI y=1∧kndI x=1:=by
  obtain ⟨k,c,i,t,h0,f,r⟩:=y
  obtain ⟨k2,c2,i2,t2,h2,f2,r2⟩:=x
  show k=1∧k2=1
  unfold XcR at h
  dsimp only at h
  by_cases e:k2=1
  · rw [if_pos e] at h
    by_cases e1:k=1
    · exact ⟨e1,e⟩
    · rw [if_neg e1] at h;cases h
  · rw [if_neg e] at h;cases h
theorem XrU {y x:Item} (hy:okJ y) (hx:okJ x) (h:XcR y x=true):okJ (Xhc y x):=by
  obtain ⟨k1,k2⟩:=Xim h
  rcases hy with rfl | ⟨c,_,rfl⟩ | ⟨qs,a1,a2,rfl⟩
  · exact absurd k1 (by decide)
  · exact absurd k1 (by show ¬ (4:Int)=1;decide)
  rcases hx with rfl | ⟨c,_,rfl⟩ | ⟨rs,b1,b2,rfl⟩
  · exact absurd k2 (by decide)
  · exact absurd k2 (by show ¬ (4:Int)=1;decide)
  refine .inr (.inr ⟨qs++rs,by simp [a1],?_,?_⟩)
  · intro p hp
    rcases List.mem_append.1 hp with hp | hp
    · exact a2 p hp
    · exact b2 p hp
  · show itT (txt (qs.flatMap Xat)++txt (rs.flatMap Xat))=_
    rw [Xo3,List.flatMap_append]
theorem XuA {out:List Item} {x:Item} (h:∀ y ∈ out,okJ y) (hx:okJ x):∀ y ∈ Xed out x,okJ y:=by
  rcases List.eq_nil_or_concat out with rfl | ⟨ys,y,rfl⟩
  · rw [Xch]
    intro z hz
    rw [List.mem_singleton.1 hz];exact hx
  · rw [List.concat_eq_append] at h ⊢
    rw [XaG]
    by_cases hj:XcR y x=true
    · rw [if_pos hj]
      intro z hz
      rcases List.mem_append.1 hz with hz | hz
      · exact h z (List.mem_append_left _ hz)
      · rw [List.mem_singleton.1 hz];exact XrU (h y (by simp)) hx hj
    · rw [if_neg hj]
      intro z hz
      rcases List.mem_append.1 hz with hz | hz
      · exact h z hz
      · rw [List.mem_singleton.1 hz];exact hx
theorem Xng:∀ {l out:List Item},(∀ y ∈ l,okJ y)→(∀ y ∈ out,okJ y)→∀ y ∈ X8 out l,okJ y
  | [],out,_,h=>by rw [X8];exact h
  | x::l,out,hl,h=>by
    rw [X8]
    exact Xng (fun y hy=>hl y (List.mem_cons_of_mem _ hy)) (XuA h (hl x List.mem_cons_self))
theorem XpF {q:List Nat} (hp:∀ p ∈ q,ptN p):∀ y ∈ XaF (q.map itN),okJ y:=by
  unfold XaF
  rw [Xg3]
  refine Xng (fun y hy=>?_) (fun y hy=>by cases hy)
  obtain ⟨p,h1,rfl⟩:=List.mem_map.1 hy
  exact XuH (hp p h1)
def XjK (l:List Item):Prop:=∀ i y x,l[i]?=some y→l[i+1]?=some x→XcR y x=false
theorem XlR (y x z:Item) (h:XcR y x=true):XcR z (Xhc y x)=XcR z y:=by
  obtain ⟨k,c,i,t,h0,f,r⟩:=y
  obtain ⟨k2,c2,i2,t2,h2,f2,r2⟩:=x
  obtain ⟨k3,c3,i3,t3,h3,f3,r3⟩:=z
  rfl
theorem Xn5 {out:List Item} {x:Item} (h:XjK out):XjK (Xed out x):=by
  rcases List.eq_nil_or_concat out with rfl | ⟨ys,y,rfl⟩
  · rw [Xch]
    intro i a b _ h2
    rw [List.getElem?_eq_none (by simp)] at h2;cases h2
  · rw [List.concat_eq_append] at h ⊢
    rw [XaG]
    by_cases hj:XcR y x=true
    · rw [if_pos hj]
      intro i a b h1 h2
      have hl:i+1 < (ys++[Xhc y x]).length:=(List.getElem?_eq_some_iff.1 h2).1
      rw [List.length_append,List.length_singleton] at hl
      rw [List.getElem?_append_left (by omega)] at h1
      have h1':(ys++[y])[i]?=some a:=by rw [List.getElem?_append_left (by omega)];exact h1
      by_cases he:i+1 < ys.length
      · rw [List.getElem?_append_left he] at h2
        exact h i a b h1' (by rw [List.getElem?_append_left he];exact h2)
      · rw [List.getElem?_append_right (by omega),show i+1 - ys.length=0 from by omega] at h2
        cases h2
        rw [XlR y x a hj]
        exact h i a y h1' (by rw [List.getElem?_append_right (by omega),show i+1 - ys.length=0 from by omega];rfl)
    · rw [if_neg hj]
      intro i a b h1 h2
      have hl:i+1 < (ys++[y]++[x]).length:=(List.getElem?_eq_some_iff.1 h2).1
      rw [List.length_append,List.length_singleton] at hl
      rw [List.getElem?_append_left (by omega)] at h1
      by_cases he:i+1 < (ys++[y]).length
      · rw [List.getElem?_append_left he] at h2
        exact h i a b h1 h2
      · rw [List.getElem?_append_right (by omega),show i+1 - (ys++[y]).length=0 from by omega] at h2
        cases h2
        rw [List.length_append,List.length_singleton] at he hl
        rw [List.getElem?_append_right (by omega),show i - ys.length=0 from by omega] at h1
        cases h1
        exact Bool.eq_false_iff.2 hj
theorem Xg8:∀ {l out:List Item},XjK out→XjK (X8 out l)
  | [],out,h=>by rw [X8];exact h
  | x::l,out,h=>by rw [X8];exact Xg8 (Xn5 h)
theorem Xik:∀ {l out:List Item},XjK (out++l)→X8 out l=out++l
  | [],out,h=>by rw [X8,List.append_nil]
  | x::l,out,h=>by
    have e:Xed out x=out++[x]:=by
      rcases List.eq_nil_or_concat out with rfl | ⟨ys,y,rfl⟩
      · rw [Xch];rfl
      · rw [List.concat_eq_append] at h ⊢
        rw [XaG,if_neg]
        rw [h ys.length y x (by rw [List.append_assoc,List.getElem?_append_right (Nat.le_refl _),Nat.sub_self];rfl) (by rw [List.append_assoc,List.getElem?_append_right (by omega),Nat.add_sub_cancel_left];rfl)]
        decide
    rw [X8,e]
    have e2:out++x::l=(out++[x])++l:=by simp
    rw [e2] at h ⊢
    exact Xik h
theorem XrV {x:Item} (h:okJ x):Xd1 x=x:=by
  rcases h with rfl | ⟨c,_,rfl⟩ | ⟨qs,_,_,rfl⟩
  · unfold itP;rw [Xd1,Xb2,Xci];rfl
  · unfold itB;rw [Xd1,Xb2,Xci];rfl
  · exact Xg4 _
theorem Xne:∀ {l:List Item},(∀ y ∈ l,okJ y)→Xb2 l=l
  | [],_=>by rw [Xb2]
  | x::l,h=>by rw [Xb2,XrV (h x List.mem_cons_self),Xne fun y hy=>h y (List.mem_cons_of_mem _ hy)]
theorem XpG {q:List Nat} (hp:∀ p ∈ q,ptN p):XaF (XaF (q.map itN))=XaF (q.map itN):=by
  have h1:=XpF hp
  have h2:XjK (XaF (q.map itN)):=by
    unfold XaF
    exact Xg8 (fun i y x h=>by simp at h)
  generalize XaF (q.map itN)=J at h1 h2 ⊢
  unfold XaF
  rw [Xne h1]
  exact Xik (out:=[]) h2
theorem Xra (y x:Item) (h:XcR y x=true):wrI (Xhc y x)=wrI y++wrI x:=by
  obtain ⟨k1,k2⟩:=Xim h
  obtain ⟨k,c,i,t,h0,f,r⟩:=y
  obtain ⟨k',c2,i2,t2,h2,f2,r2⟩:=x
  have k1:k=1:=k1
  have k2:k'=1:=k2
  subst k1;subst k2
  show wrI (.mk 1 c i (t++t2) h0 f r)=_
  rw [XnI,XnI,XnI,ByteArray.data_append,Array.toList_append]
theorem XtC (out:List Item) (x:Item):wrF (Xed out x)=wrF out++wrI x:=by
  unfold wrF
  rcases List.eq_nil_or_concat out with rfl | ⟨ys,y,rfl⟩
  · rw [Xch];simp
  · rw [List.concat_eq_append,XaG]
    by_cases hj:XcR y x=true
    · rw [if_pos hj,List.flatMap_append,List.flatMap_append,List.flatMap_singleton,List.flatMap_singleton,Xra y x hj,List.append_assoc]
    · rw [if_neg hj,List.flatMap_append,List.flatMap_singleton]
theorem XmR:∀ (l out:List Item),wrF (X8 out l)=wrF out++wrF l
  | [],out=>by rw [X8];unfold wrF;simp
  | x::l,out=>by
    rw [X8,XmR l,XtC,List.append_assoc]
    unfold wrF
    rw [List.flatMap_cons]
theorem Xxe (p:Nat):wrI (itN p)=Xat p:=by
  unfold itN
  by_cases h:p=10
  · subst h;rfl
  rw [if_neg h]
  by_cases h:p=11
  · subst h;rfl
  rw [if_neg h]
  by_cases h:p=12
  · subst h;rfl
  rw [if_neg h]
  by_cases h:p=9
  · subst h;rfl
  rw [if_neg h]
  unfold itT txt
  rw [XnI]
theorem XtD (q:List Nat):wrF (XaF (q.map itN))=q.flatMap Xat:=by
  unfold XaF
  rw [Xg3,XmR]
  show []++wrF (q.map itN)=_
  rw [List.nil_append]
  induction q with
  | nil=>rfl
  | cons p q ih =>
    unfold wrF at ih ⊢
    rw [List.map_cons,List.flatMap_cons,List.flatMap_cons,Xxe,ih]
theorem XsY {x:Item}:∀ {l:List Item},x ∈ l→(wrI x).length≤(wrF l).length
  | y::l,h=>by
    unfold wrF
    rw [List.flatMap_cons,List.length_append]
    rcases List.mem_cons.1 h with rfl | h
    · omega
    · have:=XsY h
      unfold wrF at this
      omega
theorem Xwl {x:Item} (h:okJ x) (hs:(wrI x).length≤1000):Xwm x:=by
  rcases h with rfl | ⟨c,hc,rfl⟩ | ⟨qs,h0,_,rfl⟩
  · exact ⟨rfl,rfl,rfl,rfl,.inr (.inl ⟨rfl,rfl,rfl⟩)⟩
  · exact ⟨rfl,rfl,rfl,rfl,.inr (.inr ⟨rfl,hc,rfl⟩)⟩
  · have e:wrI (itT (txt (qs.flatMap Xat)))=qs.flatMap Xat:=by
      unfold itT txt
      rw [XnI]
    rw [e] at hs
    refine ⟨rfl,rfl,rfl,rfl,.inl ⟨rfl,rfl,?_,by rw [Xaf];exact hs⟩⟩
    rw [Xaf]
    cases qs with
    | nil=>exact absurd rfl h0
    | cons p qs =>
      rw [List.flatMap_cons,List.length_append]
      have:=List.length_pos_iff.2 (XeH p)
      omega
end Go.Proofs.YtlcphjcpoinolaaGreat
