/-
  A part of the proof: KD5.
-/
import Derived.Test.YtidicphjlgjajaaGreatDoorAe
set_option linter.all false

namespace Go.AI
def OY:List AV:=[.agg [.sc (.slice none 0 0),.aG [[.sc (.string ⟨#[120]⟩),.sc (.int .i64 1),.sc (.string ⟨#[]⟩),.sc (.slice none 0 0)]] 4]]
def OZ:List AV:=[.agg [.sc (.int .i64 12),.sc (.string ⟨#[]⟩),.sc (.int .i64 0),.sc (.int .i64 0),.sc (.string ⟨#[]⟩),.sc (.slice none 0 0),.aG [[.sc (.int .i64 20),.sc (.string ⟨#[120]⟩),.sc (.int .i64 0),.sc (.int .i64 0),.sc (.string ⟨#[]⟩),.sc (.slice none 0 0),.sc (.slice none 0 0)],[.sc (.int .i64 19),.sc (.string ⟨#[]⟩),.sc (.int .i64 3),.sc (.int .i64 0),.sc (.string ⟨#[]⟩),.sc (.slice none 0 0),.sc (.slice none 0 0)]] 7]]
def O0:List AV:=[.agg [.sc (.int .i64 4),.sc (.string ⟨#[]⟩),.sc (.int .i64 0),.sc (.int .i64 0),.sc (.string ⟨#[]⟩),.sc (.slice none 0 0),.aG [[.sc (.int .i64 12),.sc (.string ⟨#[]⟩),.sc (.int .i64 0),.sc (.int .i64 0),.sc (.string ⟨#[]⟩),.sc (.slice none 0 0),.aG [[.sc (.int .i64 20),.sc (.string ⟨#[120]⟩),.sc (.int .i64 0),.sc (.int .i64 0),.sc (.string ⟨#[]⟩),.sc (.slice none 0 0),.sc (.slice none 0 0)],[.sc (.int .i64 19),.sc (.string ⟨#[]⟩),.sc (.int .i64 3),.sc (.int .i64 0),.sc (.string ⟨#[]⟩),.sc (.slice none 0 0),.sc (.slice none 0 0)]] 7],[.sc (.int .i64 12),.sc (.string ⟨#[]⟩),.sc (.int .i64 0),.sc (.int .i64 0),.sc (.string ⟨#[]⟩),.sc (.slice none 0 0),.aG [[.sc (.int .i64 20),.sc (.string ⟨#[120]⟩),.sc (.int .i64 0),.sc (.int .i64 0),.sc (.string ⟨#[]⟩),.sc (.slice none 0 0),.sc (.slice none 0 0)],[.sc (.int .i64 19),.sc (.string ⟨#[]⟩),.sc (.int .i64 3),.sc (.int .i64 0),.sc (.string ⟨#[]⟩),.sc (.slice none 0 0),.sc (.slice none 0 0)]] 7]] 7]]
def O1:List AV:=[.agg [.sc (.slice none 0 0),.aG [[.sc (.string ⟨#[120]⟩),.sc (.int .i64 1),.sc (.string ⟨#[]⟩),.sc (.slice none 0 0)]] 4],.agg [.sc (.int .i64 12),.sc (.string ⟨#[]⟩),.sc (.int .i64 0),.sc (.int .i64 0),.sc (.string ⟨#[]⟩),.sc (.slice none 0 0),.aG [[.sc (.int .i64 20),.sc (.string ⟨#[120]⟩),.sc (.int .i64 0),.sc (.int .i64 0),.sc (.string ⟨#[]⟩),.sc (.slice none 0 0),.sc (.slice none 0 0)],[.sc (.int .i64 19),.sc (.string ⟨#[]⟩),.sc (.int .i64 3),.sc (.int .i64 0),.sc (.string ⟨#[]⟩),.sc (.slice none 0 0),.sc (.slice none 0 0)]] 7]]
def O2:List AV:=[.agg [.sc (.slice none 0 0),.aG [[.sc (.string ⟨#[120]⟩),.sc (.int .i64 1),.sc (.string ⟨#[]⟩),.sc (.slice none 0 0)]] 4],.agg [.sc (.int .i64 4),.sc (.string ⟨#[]⟩),.sc (.int .i64 0),.sc (.int .i64 0),.sc (.string ⟨#[]⟩),.sc (.slice none 0 0),.aG [[.sc (.int .i64 12),.sc (.string ⟨#[]⟩),.sc (.int .i64 0),.sc (.int .i64 0),.sc (.string ⟨#[]⟩),.sc (.slice none 0 0),.aG [[.sc (.int .i64 20),.sc (.string ⟨#[120]⟩),.sc (.int .i64 0),.sc (.int .i64 0),.sc (.string ⟨#[]⟩),.sc (.slice none 0 0),.sc (.slice none 0 0)],[.sc (.int .i64 19),.sc (.string ⟨#[]⟩),.sc (.int .i64 3),.sc (.int .i64 0),.sc (.string ⟨#[]⟩),.sc (.slice none 0 0),.sc (.slice none 0 0)]] 7],[.sc (.int .i64 12),.sc (.string ⟨#[]⟩),.sc (.int .i64 0),.sc (.int .i64 0),.sc (.string ⟨#[]⟩),.sc (.slice none 0 0),.aG [[.sc (.int .i64 20),.sc (.string ⟨#[120]⟩),.sc (.int .i64 0),.sc (.int .i64 0),.sc (.string ⟨#[]⟩),.sc (.slice none 0 0),.sc (.slice none 0 0)],[.sc (.int .i64 19),.sc (.string ⟨#[]⟩),.sc (.int .i64 3),.sc (.int .i64 0),.sc (.string ⟨#[]⟩),.sc (.slice none 0 0),.sc (.slice none 0 0)]] 7]] 7]]
def xl:kM:=⟨127,OY,.bool true⟩
def xm:kM:=⟨57,OZ,.bool true⟩
def xn:kM:=⟨57,O0,.bool true⟩
def O3:kM:=⟨129,O1,.int .i64 0⟩
def O4:kM:=⟨129,O2,.int .i64 0⟩
end Go.AI
