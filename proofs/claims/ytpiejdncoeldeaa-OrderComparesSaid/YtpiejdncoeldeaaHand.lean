/- What was walked by hand, for the printed texts of the second print (key B). -/
import Derived.Test.YtpiejdncoeldeaaSorA
